/- W8L23j, W8E18w, W8E11c, W8E11d, W8E11e, W8E11f, W8E12b, W8E12g, W8E18k, W8E18l, W8E18m, W8E18n, W8E18o, W8X18e, W8E18p, W8E18q, W8D11g, W8D12f, W8D12h, W8D12i, W8D12j, W8D12k, W8D12l, W8D12m, W8p, W8q, W8s, W8a: texts of the proof, put together. -/
import Derived.Test.YtjldbnbdcmfbmaaGreatM5
import Derived.Test.YtjldbnbdcmfbmaaGreatF8f
import Derived.Test.YtjldbnbdcmfbmaaGreatM4

section
namespace Go.Proofs.YtjldbnbdcmfbmaaGreat
open Go Go.AM
set_option linter.unusedSimpArgs false
set_option linter.unusedVariables false
set_option maxRecDepth 100000
theorem Z2 {b:Bool} (h:b=false):¬ b=true:=by simp [h]
structure VwG (v:VV):Prop where
 ok:VP v=true
 members:v.members.length≤4
 owners:v.owners.length≤4
theorem VM {z:Int} (h:0≤z∧z < 4):Z5 z=true:=by simp only [Z5,decide_eq_true_eq];omega
theorem s29 (l:List Int):Ret (fun r=>∃ v:VV,r=(v.number,Za v.members,Za v.owners)∧VwG v) (g29 (Za l)):=by
 rw [Ztr]
 refine Zb (Zp l _) fun _ _=>Zb (place _ 200 (by omega) (by omega)) fun num hnum=>?_
 have part0:∀ mem:List Int,mem.length≤4→(∀ x∈mem,Z5 x=true)→(∀ i (h:i < mem.length),Zhl mem i=true)→Ret (fun r=>∃ v:VV,r=(v.number,Za v.members,Za v.owners)∧VwG v) (ZkD ZE (Za l) 0 E0 E0 num (Za mem) E0 0):=by
  intro mem hm1 hm2 hm3
  refine Yc (F:=fun k (s:LL) z=>ZkD k (Za l) 0 E0 E0 num (Za mem) s z) 3 (fun i s=>∃ es:List Int,s=Za es∧es.length≤i∧∀ x∈es,Z5 x=true) (by omega) (fun k i s hi hj ih=>?_) _ ⟨[],rfl,by simp,by simp⟩
  obtain ⟨es,rfl,h1,h2⟩:=hj
  show Ret _ (ZkD (k+1) _ _ _ _ _ _ _ _)
  rw [Zoz]
  refine Zb (Zp l _) fun _ _=>Zb (place _ 3 (by omega) (by omega)) fun r9 h9=>?_
  refine Zk (fun h4=>?_) fun _=>Zg ⟨⟨num,mem,es⟩,rfl,⟨?_,hm1,by show es.length≤4;omega⟩⟩
  ·simp only [CQ] at h4
   refine Zn (Zv (by simp [ZU];omega) (by omega)) ?_
   refine Zb (Zp l _) fun _ _=>Zb (place _ 4 (by omega) (by omega)) fun r11 h11=>?_
   refine Zn (Zv (by simp [Za];omega) (by omega)) ?_
   rw [Zdt hi (by omega)]
   exact ih (by omega) _ ⟨es++[r11],(Kd Wf es _),by simp;omega,Yh h2 (VM h11)⟩
  ·have a1:((List.range' 0 mem.length).all fun i=>atB Z5 mem i&&Zhl mem i)=true:=by
    rw [List.all_eq_true]
    intro i hi
    rw [List.mem_range'_1] at hi
    have hil:i < mem.length:=by omega
    rw [J7 _ hil,hm2 _ (List.getElem_mem hil),hm3 i hil];rfl
   have a2:YQ num=true:=by simp only [YQ,decide_eq_true_eq];omega
   simp only [VP,a1,a2,List.all_eq_true.2 h2,Bool.and_true,Bool.true_and,Bool.and_eq_true,decide_eq_true_eq]
   omega
 refine Yc (F:=fun k (s:LL) z=>Zk7 k (Za l) 0 E0 E0 num s E0 z) 4 (fun i s=>∃ es:List Int,s=Za es∧es.length≤i∧(∀ x∈es,Z5 x=true)∧∀ i (h:i < es.length),Zhl es i=true) (by omega) (fun k i s hi hj ih=>?_) _ ⟨[],rfl,by simp,by simp,by simp⟩
 obtain ⟨es,rfl,h1,h2,h3⟩:=hj
 show Ret _ (Zk7 (k+1) _ _ _ _ _ _ _ _)
 rw [Zpd]
 refine Zb (Zp l _) fun _ _=>Zb (place _ 4 (by omega) (by omega)) fun r9 h9=>?_
 refine Zk (fun h4=>?_) fun _=>part0 es (by omega) h2 h3
 simp only [CQ] at h4
 refine Zb (Zp l _) fun _ _=>Zb (place _ 4 (by omega) (by omega)) fun r11 h11=>?_
 rw [s79 es (by omega),Option.bind_some,Zdt hi (by omega)]
 refine Zk (fun h5=>?_) fun _=>ih (by omega) _ ⟨es,rfl,by omega,h2,h3⟩
 refine Zn (Zv (by simp [ZU];omega) (by omega)) ?_
 refine Zn (Zv (by simp [Za];omega) (by omega)) ?_
 refine ih (by omega) _ ⟨es++[r11],(Kd Wf es _),by simp;omega,Yh h2 (VM h11),fun j hj=>?_⟩
 rw [List.length_append,List.length_cons,List.length_nil] at hj
 rw [Zl1 (by simpa using hj)]
 by_cases hjl:j < es.length
 ·have:=h3 j hjl
  rw [Zl1 hjl] at this
  rw [List.getElem_append_left hjl,List.take_append_of_le_length (by omega)]
  exact this
 ·have e:j=es.length:=by omega
  subst e
  rw [List.getElem_append_right (Nat.le_refl _),List.take_left]
  simpa using h5
theorem s27 (z:Int):Ret (fun r=>∃ cs:List Int,r=Za cs∧cs.length≤4∧ZhV cs=true) (g27 z):=by
 rw [Zt5]
 refine Yc (F:=fun k (s:LL) i=>Zlj k z s i) 4 (fun i s=>∃ es:List Int,s=Za es∧es.length≤i∧(∀ x∈es,0≤x∧x < (i:Int))∧Vu ltI es=true) (by omega) (fun k i s hi hj ih=>?_) _ ⟨[],rfl,by simp,by simp,rfl⟩
 obtain ⟨es,rfl,h1,h2,h3⟩:=hj
 show Ret _ (Zlj (k+1) _ _ _)
 rw [ZpH]
 refine Zk (fun h4=>?_) fun h4=>Zg ⟨es,rfl,by omega,?_⟩
 ·simp only [CQ] at h4
  have hw:IntKind.wrap .u64 (i:Int)=i:=Ys (by omega) (by omega)
  rw [hw]
  refine Zn (by omega) (Zb (place _ 2 (by omega) (by omega)) fun r3 _=>?_)
  rw [Zdt hi (by omega)]
  refine Zk (fun _=>?_) fun _=>ih (by omega) _ ⟨es,rfl,by omega,fun x hx=>by have:=h2 x hx;omega,h3⟩
  refine Zn (Zv (by simp [Za];omega) (by omega)) (ih (by omega) _ ⟨es++[(i:Int)],(Kd Wf es _),by simp;omega,fun x hx=>?_,Zjg h3 fun h=>?_⟩)
  ·rw [List.mem_append,List.mem_singleton] at hx
   rcases hx with hx | rfl
   ·have:=h2 x hx;omega
   ·omega
  ·have:=h2 _ (List.getElem_mem (show es.length-1 < es.length by omega))
   rw [ltI,decide_eq_true_eq];omega
 ·rw [ZhV,h3,Bool.and_true,List.all_eq_true]
  intro x hx
  have:=h2 x hx
  exact VM ⟨by omega,by omega⟩
theorem s77 (a b c:Int):Ret (fun r=>∃ i:Id,r=(i.core,i.op,i.part)∧K3 i=true) (g77 a b c):=by
 rw [Ztw]
 refine Zb (place a 4 (by omega) (by omega)) fun x hx=>Zb (place b 12 (by omega) (by omega)) fun y hy=>Zb (place c 3 (by omega) (by omega)) fun z hz=>?_
 have e:iop .add .i64 1 y=1+y:=J8 (by omega) (by omega)
 rw [e]
 exact Zg ⟨⟨x,1+y,z⟩,rfl,by simp only [K3,decide_eq_true_eq];omega⟩
theorem s26 (l:List Int) (hn:l.length < 2^63):Ret (fun r=>∃ is:List Id,r=Zc is∧is.length≤8∧∀ i∈is,K3 i=true) (g26 (Za l)):=by
 rw [ZtL]
 refine Vc (F:=fun k (s:LL) i=>Ziz k (Za l) s i) (n:=l.length) (fun i s=>∃ es:List Id,s=Zc es∧es.length≤8∧∀ i∈es,K3 i=true) hn (fun k i s hi hj ih=>?_) (fun k s hj=>?_) _ ⟨[],rfl,by simp,by simp⟩
 ·obtain ⟨es,rfl,h1,h2⟩:=hj
  show Ret _ (Ziz (k+1) _ _ _)
  rw [ZjY,ZU,ZY,if_pos (Jg hi)]
  refine Zk (fun h4=>?_) fun _=>Zg ⟨es,rfl,h1,h2⟩
  simp only [CQ] at h4
  refine Zf (ZT hi _) (Zf (ZT hi _) (Zn (by omega) (Zf (ZT hi _) (Zn (by omega) ?_))))
  refine Zb (s77 _ _ _) fun r ⟨x,hx,hxo⟩=>?_
  subst hx
  rw [s78 es (by omega),Option.bind_some,Jd hi hn]
  refine Zk (fun _=>?_) fun _=>ih _ ⟨es,rfl,h1,h2⟩
  exact Zn (Zv (by rw [ZY];simp;omega) (by omega)) (ih _ ⟨es++[x],by simp [Zc,idc],by simp;omega,Yh h2 hxo⟩)
 ·obtain ⟨es,rfl,h1,h2⟩:=hj
  show Ret _ (Ziz (k+1) _ _ _)
  rw [ZjY,ZU,if_neg (Jh (Nat.le_refl _))]
  exact Zg ⟨es,rfl,h1,h2⟩
structure StS (s:Jv):Prop where
 ok:Yy s=true
 slots:s.slots.length≤12
 spath:∀ x∈s.slots,x.node.path.length≤20
 pend:s.pending.length≤3
 psrc:∀ q∈s.pending,q.src.path.length≤20
 marks:s.marks.length≤3
 answers:s.answers.length≤3
 entries:s.entries.length≤3
 epath:∀ e∈s.entries,e.node.path.length≤20
 commits:s.commits.length≤3
theorem StG.short {f:List Zx} {n:Nat} (hf:FOk f n) {s:Jv} (h:StG f s):StS s:=⟨h.ok,by have:=h.slots.len;omega,(h.few hf).path,h.pend,fun q hq=>(h.psrc q hq).1,h.marks,h.answers,h.entries,h.epath,h.commits⟩
theorem StS.fits {s:Jv} (h:StS s):s.Fits:=by
 have h1:=h.slots;have h2:=h.pend;have h3:=h.marks;have h4:=h.answers;have h5:=h.entries;have h6:=h.commits
 exact ⟨by omega,by omega,by omega,by omega,by omega,by omega,fun x hx=>by have:=h.spath x hx;omega,fun x hx=>by have:=h.psrc x hx;omega,fun x hx=>by have:=h.epath x hx;omega⟩
theorem Vl:StS Zr:=⟨by kernel_rfl,by simp [Zr],by simp [Zr],by simp [Zr],by simp [Zr],by simp [Zr],by simp [Zr],by simp [Zr],by simp [Zr],by simp [Zr]⟩
theorem Vj:VwG ZL:=⟨by kernel_rfl,by simp [ZL],by simp [ZL]⟩
theorem VwG.fits {v:VV} (h:VwG v):v.Fits:=⟨by have:=h.members;omega,by have:=h.owners;omega⟩
def Zl6 (r:Jm):Prop:=Zeh r.state∧Zeh r.proposal
structure RpS (r:Jm):Prop where
 core:Z5 r.core=true
 view:VwG r.view
 state:StS r.state
 next:VwG r.next
 proposal:StS r.proposal
theorem RpS.ok {r:Jm} (h:RpS r):Zhq r=true:=by simp only [Zhq,h.core,h.view.ok,h.state.ok,h.next.ok,h.proposal.ok,Bool.and_self]
theorem Wj:RpS Zt:=⟨by kernel_rfl,Vj,Vl,Vj,Vl⟩
abbrev RpT:=Int×Int×LL×LL×LL×LL×LL×LL×LL×LL×Bool×Int×LL×LL×LL×LL×LL×LL×LL×LL
def rpV (r:Jm):RpT:=(r.core,r.view.number,Za r.view.members,Za r.view.owners,r.state.slots.map Zh,r.state.pending.map ZN,r.state.marks.map Zm,r.state.answers.map ZS,r.state.entries.map Ze,Zc r.state.commits,r.ready,r.next.number,Za r.next.members,Za r.next.owners,r.proposal.slots.map Zh,r.proposal.pending.map ZN,r.proposal.marks.map Zm,r.proposal.answers.map ZS,r.proposal.entries.map Ze,Zc r.proposal.commits)
theorem Jl:Zeh Zr:=fun q hq=>by cases hq
theorem s28 (l:List Int) (f:List Zx) (n:Nat) (hf:FOk f n) (hn:n≤60):Ret (fun r=>∃ p:Jm,r=rpV p∧RpS p∧(RL l→Zl6 p)) (g28 (Za l) (f.map Ze)):=by
 rw [Zwj]
 refine Zb (Zp l _) fun _ _=>Zb (place _ 4 (by omega) (by omega)) fun c hc=>?_
 refine Zb (s24 l 1 (by omega)) fun r ⟨l1,hr,_⟩=>?_
 subst hr
 refine Zb (s29 l1) fun r ⟨v,hr,hv⟩=>?_
 subst hr
 refine Zb (s24 l 2 (by omega)) fun r ⟨l2,hr,_,q2⟩=>?_
 subst hr
 refine Zb (s30 l2 f n hf hn c) fun r ⟨s,hr,hs,hcs⟩=>?_
 subst hr
 refine Zb (Zp l _) fun _ _=>Zb (place _ 2 (by omega) (by omega)) fun _ _=>?_
 refine Zk (fun _=>?_) fun _=>Zg ⟨⟨c,v,s,false,ZL,Zr⟩,rfl,⟨VM hc,hv,hs.short hf,Vj,Vl⟩,fun h=>⟨hcs (q2 h),Jl⟩⟩
 refine Zb (s24 l 4 (by omega)) fun r ⟨l1,hr,_⟩=>?_
 subst hr
 refine Zb (s29 l1) fun r ⟨v2,hr,hv2⟩=>?_
 subst hr
 refine Zb (s24 l 5 (by omega)) fun r ⟨l2,hr,_,q3⟩=>?_
 subst hr
 refine Zb (s30 l2 f n hf hn c) fun r ⟨s2,hr,hs2,hcs2⟩=>?_
 subst hr
 exact Zg ⟨⟨c,v,s,true,v2,s2⟩,rfl,⟨VM hc,hv,hs.short hf,hv2,hs2.short hf⟩,fun h=>⟨hcs (q2 h),hcs2 (q3 h)⟩⟩
def ZnC (m:Msg):Prop:=(∀ z∈YE m.req.call,Rng z)∧Zeh m.state∧Zl6 m.report
theorem Ya:∀ z∈YE Z8.call,Rng z:=by
 intro z hz
 simp only [YE,Z8,Zqd,List.mem_cons,List.not_mem_nil,or_false] at hz
 have:z=0:=by omega
 subst this
 exact ⟨by decide,by decide⟩
theorem Z1:Zl6 Zt:=⟨Jl,Jl⟩
structure MsS (m:Msg):Prop where
 req:m.req.src.path.length≤20
 ids:m.ids.length≤8
 nodes:m.nodes.length≤3
 node:∀ x∈m.nodes,x.path.length≤20
 cores:m.cores.length≤4
 moves:m.moves.length≤3
 next:VwG m.next
 state:StS m.state
 report:RpS m.report
theorem RpS.fits {r:Jm} (h:RpS r):r.Fits:=⟨h.view.fits,h.state.fits,h.next.fits,h.proposal.fits⟩
theorem MsS.fits {m:Msg} (h:MsS m):m.Fits:=⟨by have:=h.req;omega,by have:=h.ids;omega,by have:=h.nodes;omega,fun x hx=>by have:=h.node x hx;omega,by have:=h.cores;omega,by have:=h.moves;omega,h.next.fits,h.state.fits,h.report.fits⟩
theorem Jq (m:Msg) (k:Nat) (hk:m.kind=(k:Int)) (h1:1≤k) (h2:k≤17) (hv:0≤m.view∧m.view < 70) (hf:0≤m.frm∧m.frm < 4) (ht:0≤m.to∧m.to < 4) (hfs:(kf k).all (ZM m)=true) (hr:rest k m=true):KL m=true:=by
 have e1:kindOk m.kind=true:=by simp only [kindOk,decide_eq_true_eq];omega
 have e2:YQ m.view=true:=by simp only [YQ,decide_eq_true_eq];omega
 have e3:m.kind.toNat=k:=by omega
 simp only [KL,headOk,e1,e2,VM hf,VM ht,e3,hfs,hr,Bool.and_self]
theorem Zyv (l:List Int) (f:List Zx) (n:Nat) (hf:FOk f n) (hn:n≤60) (m:Msg) :
  Ret (fun r=>∃ ns:List Yi,r=ZpO { m with nodes:=ns }∧ns.length≤3∧(∀ x∈ns,ZO x=true)∧∀ x∈ns,x.path.length≤20) (Zlf ZE (Za l) (f.map Ze) 0 0 0 0 0 0 0 0 0 0 0 false 0 0 0 0 0 0 0 0 0 0 0 0 0 0 0 0 0 0 0 0 E0 0 0 0 0 0 0 false E0 E0 E0 E0 0 0 E0 E0 E0 E0 E0 E0 E0 E0 0 0 E0 E0 E0 E0 E0 E0 E0 E0 false 0 E0 E0 E0 E0 E0 E0 E0 E0 m.kind m.view m.frm m.to m.round m.region m.slot m.op.core m.op.op m.op.part m.err m.settled m.req.id.core m.req.id.op m.req.id.part m.req.call.kind m.req.call.slot m.req.call.dest m.req.call.core m.req.call.mask m.req.call.object m.req.call.bits m.req.call.level m.req.call.offset m.req.call.count m.req.call.index m.req.call.addr m.req.region m.req.width m.req.src.id.core m.req.src.id.op m.req.src.id.part (Zc m.req.src.path) m.req.src.cap.kind m.req.src.cap.base m.req.src.cap.bits m.req.src.cap.rights m.req.src.cap.width m.req.src.cap.level m.req.src.cap.device (Zc m.ids) E0 (Za m.cores) (m.moves.map JC) m.base m.next.number (Za m.next.members) (Za m.next.owners) (m.state.slots.map Zh) (m.state.pending.map ZN) (m.state.marks.map Zm) (m.state.answers.map ZS) (m.state.entries.map Ze) (Zc m.state.commits) m.report.core m.report.view.number (Za m.report.view.members) (Za m.report.view.owners) (m.report.state.slots.map Zh) (m.report.state.pending.map ZN) (m.report.state.marks.map Zm) (m.report.state.answers.map ZS) (m.report.state.entries.map Ze) (Zc m.report.state.commits) m.report.ready m.report.next.number (Za m.report.next.members) (Za m.report.next.owners) (m.report.proposal.slots.map Zh) (m.report.proposal.pending.map ZN) (m.report.proposal.marks.map Zm) (m.report.proposal.answers.map ZS) (m.report.proposal.entries.map Ze) (Zc m.report.proposal.commits) 0):=by
 have hfl:=hf.len
 refine Yc (F:=fun k (s:LL) z=>Zlf k (Za l) (f.map Ze) 0 0 0 0 0 0 0 0 0 0 0 false 0 0 0 0 0 0 0 0 0 0 0 0 0 0 0 0 0 0 0 0 E0 0 0 0 0 0 0 false E0 E0 E0 E0 0 0 E0 E0 E0 E0 E0 E0 E0 E0 0 0 E0 E0 E0 E0 E0 E0 E0 E0 false 0 E0 E0 E0 E0 E0 E0 E0 E0 m.kind m.view m.frm m.to m.round m.region m.slot m.op.core m.op.op m.op.part m.err m.settled m.req.id.core m.req.id.op m.req.id.part m.req.call.kind m.req.call.slot m.req.call.dest m.req.call.core m.req.call.mask m.req.call.object m.req.call.bits m.req.call.level m.req.call.offset m.req.call.count m.req.call.index m.req.call.addr m.req.region m.req.width m.req.src.id.core m.req.src.id.op m.req.src.id.part (Zc m.req.src.path) m.req.src.cap.kind m.req.src.cap.base m.req.src.cap.bits m.req.src.cap.rights m.req.src.cap.width m.req.src.cap.level m.req.src.cap.device (Zc m.ids) s (Za m.cores) (m.moves.map JC) m.base m.next.number (Za m.next.members) (Za m.next.owners) (m.state.slots.map Zh) (m.state.pending.map ZN) (m.state.marks.map Zm) (m.state.answers.map ZS) (m.state.entries.map Ze) (Zc m.state.commits) m.report.core m.report.view.number (Za m.report.view.members) (Za m.report.view.owners) (m.report.state.slots.map Zh) (m.report.state.pending.map ZN) (m.report.state.marks.map Zm) (m.report.state.answers.map ZS) (m.report.state.entries.map Ze) (Zc m.report.state.commits) m.report.ready m.report.next.number (Za m.report.next.members) (Za m.report.next.owners) (m.report.proposal.slots.map Zh) (m.report.proposal.pending.map ZN) (m.report.proposal.marks.map Zm) (m.report.proposal.answers.map ZS) (m.report.proposal.entries.map Ze) (Zc m.report.proposal.commits) z) 3 (fun i s=>∃ es:List Yi,s=es.map Jx∧es.length≤i∧(∀ x∈es,ZO x=true)∧∀ x∈es,x.path.length≤20) (by omega) (fun k i s hi hj ih=>?_) _ ⟨[],rfl,by simp,by simp,by simp⟩
 obtain ⟨es,rfl,h1,h2,h3⟩:=hj
 refine Zf (Zpa ..) ?_
 refine Zb (Zp l _) fun _ _=>Zb (place _ 3 (by omega) (by omega)) fun r16 h16=>?_
 refine Zk (fun h4=>?_) fun _=>Zg ⟨es,rfl,by omega,h2,h3⟩
 refine Zk (fun h5=>?_) fun _=>Zg ⟨es,rfl,by omega,h2,h3⟩
 simp only [CQ,List.length_map] at h4 h5
 have hif:i < f.length:=by omega
 refine Zn (Zv (by simp;omega) (by omega)) ?_
 refine Zf (Zo hif _) ?_
 have hno:=(hf.all _ (List.getElem_mem hif)).ok
 have hp:=(JX hno).2.2.1
 refine YM (s25 f[i].node (by omega)) ?_
 refine Zn (Zv (by simp;omega) (by omega)) ?_
 refine Zf (congrArg (fun z=>Zlf k (Za l) (f.map Ze) 0 0 0 0 0 0 0 0 0 0 0 false 0 0 0 0 0 0 0 0 0 0 0 0 0 0 0 0 0 0 0 0 E0 0 0 0 0 0 0 false E0 E0 E0 E0 0 0 E0 E0 E0 E0 E0 E0 E0 E0 0 0 E0 E0 E0 E0 E0 E0 E0 E0 false 0 E0 E0 E0 E0 E0 E0 E0 E0 m.kind m.view m.frm m.to m.round m.region m.slot m.op.core m.op.op m.op.part m.err m.settled m.req.id.core m.req.id.op m.req.id.part m.req.call.kind m.req.call.slot m.req.call.dest m.req.call.core m.req.call.mask m.req.call.object m.req.call.bits m.req.call.level m.req.call.offset m.req.call.count m.req.call.index m.req.call.addr m.req.region m.req.width m.req.src.id.core m.req.src.id.op m.req.src.id.part (Zc m.req.src.path) m.req.src.cap.kind m.req.src.cap.base m.req.src.cap.bits m.req.src.cap.rights m.req.src.cap.width m.req.src.cap.level m.req.src.cap.device (Zc m.ids) (es.map Jx++(E0++[Jx f[i].node])) (Za m.cores) (m.moves.map JC) m.base m.next.number (Za m.next.members) (Za m.next.owners) (m.state.slots.map Zh) (m.state.pending.map ZN) (m.state.marks.map Zm) (m.state.answers.map ZS) (m.state.entries.map Ze) (Zc m.state.commits) m.report.core m.report.view.number (Za m.report.view.members) (Za m.report.view.owners) (m.report.state.slots.map Zh) (m.report.state.pending.map ZN) (m.report.state.marks.map Zm) (m.report.state.answers.map ZS) (m.report.state.entries.map Ze) (Zc m.report.state.commits) m.report.ready m.report.next.number (Za m.report.next.members) (Za m.report.next.owners) (m.report.proposal.slots.map Zh) (m.report.proposal.pending.map ZN) (m.report.proposal.marks.map Zm) (m.report.proposal.answers.map ZS) (m.report.proposal.entries.map Ze) (Zc m.report.proposal.commits) z) (Zdt hi (by omega))) ?_
 exact ih (by omega) _ ⟨es++[f[i].node],(Kd Jx es f[i].node),by simp;omega,Yh h2 hno,Yh h3 (by omega)⟩
theorem Zyo (l:List Int) (m:Msg) :
  Ret (fun r=>∃ ns:List ZfT,r=ZpO { m with moves:=ns }∧ns.length≤3∧(∀ x∈ns,Vz x=true)) (ZkT ZE (Za l) 0 0 0 0 0 0 0 0 0 0 0 false 0 0 0 0 0 0 0 0 0 0 0 0 0 0 0 0 0 0 0 0 E0 0 0 0 0 0 0 false E0 E0 E0 E0 0 0 E0 E0 E0 E0 E0 E0 E0 E0 0 0 E0 E0 E0 E0 E0 E0 E0 E0 false 0 E0 E0 E0 E0 E0 E0 E0 E0 m.kind m.view m.frm m.to m.round m.region m.slot m.op.core m.op.op m.op.part m.err m.settled m.req.id.core m.req.id.op m.req.id.part m.req.call.kind m.req.call.slot m.req.call.dest m.req.call.core m.req.call.mask m.req.call.object m.req.call.bits m.req.call.level m.req.call.offset m.req.call.count m.req.call.index m.req.call.addr m.req.region m.req.width m.req.src.id.core m.req.src.id.op m.req.src.id.part (Zc m.req.src.path) m.req.src.cap.kind m.req.src.cap.base m.req.src.cap.bits m.req.src.cap.rights m.req.src.cap.width m.req.src.cap.level m.req.src.cap.device (Zc m.ids) (m.nodes.map Jx) (Za m.cores) E0 m.base m.next.number (Za m.next.members) (Za m.next.owners) (m.state.slots.map Zh) (m.state.pending.map ZN) (m.state.marks.map Zm) (m.state.answers.map ZS) (m.state.entries.map Ze) (Zc m.state.commits) m.report.core m.report.view.number (Za m.report.view.members) (Za m.report.view.owners) (m.report.state.slots.map Zh) (m.report.state.pending.map ZN) (m.report.state.marks.map Zm) (m.report.state.answers.map ZS) (m.report.state.entries.map Ze) (Zc m.report.state.commits) m.report.ready m.report.next.number (Za m.report.next.members) (Za m.report.next.owners) (m.report.proposal.slots.map Zh) (m.report.proposal.pending.map ZN) (m.report.proposal.marks.map Zm) (m.report.proposal.answers.map ZS) (m.report.proposal.entries.map Ze) (Zc m.report.proposal.commits) 0):=by
 refine Yc (F:=fun k (s:LL) z=>ZkT k (Za l) 0 0 0 0 0 0 0 0 0 0 0 false 0 0 0 0 0 0 0 0 0 0 0 0 0 0 0 0 0 0 0 0 E0 0 0 0 0 0 0 false E0 E0 E0 E0 0 0 E0 E0 E0 E0 E0 E0 E0 E0 0 0 E0 E0 E0 E0 E0 E0 E0 E0 false 0 E0 E0 E0 E0 E0 E0 E0 E0 m.kind m.view m.frm m.to m.round m.region m.slot m.op.core m.op.op m.op.part m.err m.settled m.req.id.core m.req.id.op m.req.id.part m.req.call.kind m.req.call.slot m.req.call.dest m.req.call.core m.req.call.mask m.req.call.object m.req.call.bits m.req.call.level m.req.call.offset m.req.call.count m.req.call.index m.req.call.addr m.req.region m.req.width m.req.src.id.core m.req.src.id.op m.req.src.id.part (Zc m.req.src.path) m.req.src.cap.kind m.req.src.cap.base m.req.src.cap.bits m.req.src.cap.rights m.req.src.cap.width m.req.src.cap.level m.req.src.cap.device (Zc m.ids) (m.nodes.map Jx) (Za m.cores) s m.base m.next.number (Za m.next.members) (Za m.next.owners) (m.state.slots.map Zh) (m.state.pending.map ZN) (m.state.marks.map Zm) (m.state.answers.map ZS) (m.state.entries.map Ze) (Zc m.state.commits) m.report.core m.report.view.number (Za m.report.view.members) (Za m.report.view.owners) (m.report.state.slots.map Zh) (m.report.state.pending.map ZN) (m.report.state.marks.map Zm) (m.report.state.answers.map ZS) (m.report.state.entries.map Ze) (Zc m.report.state.commits) m.report.ready m.report.next.number (Za m.report.next.members) (Za m.report.next.owners) (m.report.proposal.slots.map Zh) (m.report.proposal.pending.map ZN) (m.report.proposal.marks.map Zm) (m.report.proposal.answers.map ZS) (m.report.proposal.entries.map Ze) (Zc m.report.proposal.commits) z) 3 (fun i s=>∃ es:List ZfT,s=es.map JC∧es.length≤i∧(∀ x∈es,Vz x=true)) (by omega) (fun k i s hi hj ih=>?_) _ ⟨[],rfl,by simp,by simp⟩
 obtain ⟨es,rfl,h1,h2⟩:=hj
 refine Zf (Zpv ..) ?_
 refine Zb (Zp l _) fun _ _=>Zb (place _ 3 (by omega) (by omega)) fun r16 h16=>?_
 refine Zk (fun h4=>?_) fun _=>Zg ⟨es,rfl,by omega,h2⟩
 simp only [CQ] at h4
 refine Zn (Zv (by simp;omega) (by omega)) ?_
 refine Zb (Zp l _) fun _ _=>Zb (place _ 3 (by omega) (by omega)) fun a ha=>?_
 refine Zb (Zp l _) fun _ _=>Zb (place _ 4 (by omega) (by omega)) fun b hb=>?_
 refine Zn (Zv (by simp;omega) (by omega)) ?_
 refine Zf (congrArg (fun z=>ZkT k (Za l) 0 0 0 0 0 0 0 0 0 0 0 false 0 0 0 0 0 0 0 0 0 0 0 0 0 0 0 0 0 0 0 0 E0 0 0 0 0 0 0 false E0 E0 E0 E0 0 0 E0 E0 E0 E0 E0 E0 E0 E0 0 0 E0 E0 E0 E0 E0 E0 E0 E0 false 0 E0 E0 E0 E0 E0 E0 E0 E0 m.kind m.view m.frm m.to m.round m.region m.slot m.op.core m.op.op m.op.part m.err m.settled m.req.id.core m.req.id.op m.req.id.part m.req.call.kind m.req.call.slot m.req.call.dest m.req.call.core m.req.call.mask m.req.call.object m.req.call.bits m.req.call.level m.req.call.offset m.req.call.count m.req.call.index m.req.call.addr m.req.region m.req.width m.req.src.id.core m.req.src.id.op m.req.src.id.part (Zc m.req.src.path) m.req.src.cap.kind m.req.src.cap.base m.req.src.cap.bits m.req.src.cap.rights m.req.src.cap.width m.req.src.cap.level m.req.src.cap.device (Zc m.ids) (m.nodes.map Jx) (Za m.cores) (es.map JC++(E0++[JC ⟨a,b⟩])) m.base m.next.number (Za m.next.members) (Za m.next.owners) (m.state.slots.map Zh) (m.state.pending.map ZN) (m.state.marks.map Zm) (m.state.answers.map ZS) (m.state.entries.map Ze) (Zc m.state.commits) m.report.core m.report.view.number (Za m.report.view.members) (Za m.report.view.owners) (m.report.state.slots.map Zh) (m.report.state.pending.map ZN) (m.report.state.marks.map Zm) (m.report.state.answers.map ZS) (m.report.state.entries.map Ze) (Zc m.report.state.commits) m.report.ready m.report.next.number (Za m.report.next.members) (Za m.report.next.owners) (m.report.proposal.slots.map Zh) (m.report.proposal.pending.map ZN) (m.report.proposal.marks.map Zm) (m.report.proposal.answers.map ZS) (m.report.proposal.entries.map Ze) (Zc m.report.proposal.commits) z) (Zdt hi (by omega))) ?_
 refine ih (by omega) _ ⟨es++[⟨a,b⟩],(Kd JC es ⟨a,b⟩),by simp;omega,Yh h2 ?_⟩
 simp only [Vz,VM hb,J0,Bool.and_true,decide_eq_true_eq]
 omega
theorem s10 (kind:Int) (l:List Int) (hl:l.length < 2^63) (f:List Zx) (n:Nat) (hf:FOk f n) (hn:n≤60):Ret (fun r=>∃ m:Msg,r=ZpO m∧KL m=true∧MsS m∧(RL l→ZnC m)) (g10 kind (Za l) (f.map Ze)):=by
 rw [Zvf]
 unfold m10
 refine Zb (place _ 17 (by omega) (by omega)) fun r3 h3=>?_
 obtain ⟨kd,hkd⟩:∃ kd,kd=1+r3:=⟨_,rfl⟩
 have ek:iop .add .i64 1 r3=kd:=by rw [J8 (by omega) (by omega),hkd]
 rw [ek]
 refine Zb (Zp l _) fun _ _=>Zb (place _ 70 (by omega) (by omega)) fun v hv=>?_
 refine Zb (Zp l _) fun _ _=>Zb (place _ 4 (by omega) (by omega)) fun fr hfr=>?_
 refine Zb (Zp l _) fun _ _=>Zb (place _ 4 (by omega) (by omega)) fun to hto=>?_
 refine Zb (Zp l _) fun _ _=>Zb (s22 _) fun r ⟨i,hr,hio⟩=>?_
 subst hr
 have hfl:=hf.len
 refine Zk (fun h4=>?caA) fun _=>?caB
 case' caA=>
  simp only [CQ,List.length_map] at h4
  rw [List.length_map]
  refine Zb (Zp l _) fun _ _=>Zb (place _ _ (by omega) (by omega)) fun z hz=>?_
  have hzl:z.toNat < f.length:=by omega
  refine Kz hz.1 hzl ?_
  have hn0:=(hf.all _ (List.getElem_mem hzl)).ok
  generalize f[z.toNat]=e at hn0
  let nd:Yi:=e.node
  have hno:ZO nd=true:=hn0
 case' caB=>
  let nd:Yi:=⟨i,[],⟨2,4096,12,3,0,0,false⟩⟩
  have hno:ZO nd=true:=Znj _ _ (by have:=hio.ok;rw [Zdq,Bool.and_eq_true] at this;exact this.1) (by kernel_rfl)
 all_goals
  have hpa:nd.path.length≤20:=by have:=(JX hno).2.2.1;omega
  have hk17:kd=1∨kd=2∨kd=3∨kd=4∨kd=5∨kd=6∨kd=7∨kd=8∨kd=9∨kd=10∨kd=11∨kd=12∨kd=13∨kd=14∨kd=15∨kd=16∨kd=17:=by omega
  rcases hk17 with rfl | rfl | rfl | rfl | rfl | rfl | rfl | rfl | rfl | rfl | rfl | rfl | rfl | rfl | rfl | rfl | rfl
  ·refine Zf (if_pos (by kernel_rfl)) (Zb (Zp l _) fun _ _=>Zb (place _ 3 (by omega) (by omega)) fun rg hrg=>?_)
   have hrg':J0 rg=true:=by simp only [J0,decide_eq_true_eq];omega
   refine Zf (if_neg (Z2 (by kernel_rfl))) ?_
   refine Zf (if_pos (by kernel_rfl)) ?_
   refine Zb (s24 l 5 (by omega)) fun r ⟨l1,hr,hl1,ql1⟩=>?_
   subst hr
   refine Zb (s23 l1 nd hno hpa) fun r ⟨q,hr,⟨hqp,_⟩,hqo,hqc⟩=>?_
   subst hr
   exact Zg ⟨⟨1,v,fr,to,0,rg,0,zid,0,false,q,[],[],[],[],0,ZL,Zr,Zt⟩,rfl,Jq ⟨1,v,fr,to,0,rg,0,zid,0,false,q,[],[],[],[],0,ZL,Zr,Zt⟩ 1 rfl (by decide) (by decide) hv hfr hto (by simp only [kf,List.all_cons,List.all_nil,ZM,decide_true,Bool.and_true,Bool.true_and,Bool.or_true,Bool.true_or,List.length_cons,List.length_nil,ne_eq,not_true_eq_false,not_false_eq_true,hrg',hqo]) (by kernel_rfl),⟨hqp,by simp,by simp,by simp,by simp,by simp,Vj,Vl,Wj⟩,fun h=>⟨hqc (ql1 h),Jl,Z1⟩⟩
  ·refine Zf (if_pos (by kernel_rfl)) (Zb (Zp l _) fun _ _=>Zb (place _ 3 (by omega) (by omega)) fun rg hrg=>?_)
   have hrg':J0 rg=true:=by simp only [J0,decide_eq_true_eq];omega
   refine Zf (if_pos (by kernel_rfl)) (Zb (Zp l _) fun _ _=>Zb (s22 _) fun r ⟨op,hr,hop⟩=>?_)
   subst hr
   refine Zf (if_neg (Z2 (by kernel_rfl))) ?_
   refine Zf (if_pos (by kernel_rfl)) ?_
   refine Zb (Zp l 6) fun _ _=>Zb (place _ 20 (by omega) (by omega)) fun er her=>?_
   have her':ZdH er=true:=by simp only [ZdH,decide_eq_true_eq];omega
   refine Zb (Zp l 7) fun _ _=>Zb (place _ 2 (by omega) (by omega)) fun st hst=>?_
   refine Zkc (Zyv l f n hf hn ⟨2,v,fr,to,0,rg,0,op,er,(cop .eql st 1),Z8,[],[],[],[],0,ZL,Zr,Zt⟩) fun r ⟨ns,hr,hn1,hn2,hn3⟩=>?_
   exact ⟨⟨2,v,fr,to,0,rg,0,op,er,(cop .eql st 1),Z8,[],ns,[],[],0,ZL,Zr,Zt⟩,hr,Jq ⟨2,v,fr,to,0,rg,0,op,er,(cop .eql st 1),Z8,[],ns,[],[],0,ZL,Zr,Zt⟩ 2 rfl (by decide) (by decide) hv hfr hto (by simp only [kf,List.all_cons,List.all_nil,ZM,decide_true,Bool.and_true,Bool.true_and,Bool.or_true,Bool.true_or,List.length_cons,List.length_nil,ne_eq,not_true_eq_false,not_false_eq_true,hrg',hop.ok,her',List.all_eq_true.2 hn2,show ns.length≤8 by omega,show ¬ ((2:Int)=4) by decide]) (by kernel_rfl),⟨by simp [Z8,Z4],by simp,hn1,hn3,by simp,by simp,Vj,Vl,Wj⟩,fun h=>⟨Ya,Jl,Z1⟩⟩
  ·refine Zf (if_pos (by kernel_rfl)) (Zb (Zp l _) fun _ _=>Zb (place _ 3 (by omega) (by omega)) fun rg hrg=>?_)
   have hrg':J0 rg=true:=by simp only [J0,decide_eq_true_eq];omega
   refine Zf (if_pos (by kernel_rfl)) (Zb (Zp l _) fun _ _=>Zb (s22 _) fun r ⟨op,hr,hop⟩=>?_)
   subst hr
   refine Zf (if_neg (Z2 (by kernel_rfl))) ?_
   refine Zf (if_neg (Z2 (by kernel_rfl))) ?_
   refine Zf (if_neg (Z2 (by kernel_rfl))) ?_
   refine Zf (if_neg (Z2 (by kernel_rfl))) ?_
   refine Zf (if_neg (Z2 (by kernel_rfl))) ?_
   refine Zf (if_neg (Z2 (by kernel_rfl))) ?_
   refine Zf (if_neg (Z2 (by kernel_rfl))) ?_
   refine Zf (if_neg (Z2 (by kernel_rfl))) ?_
   refine Zf (if_neg (Z2 (by kernel_rfl))) ?_
   exact Zg ⟨⟨3,v,fr,to,0,rg,0,op,0,false,Z8,[],[],[],[],0,ZL,Zr,Zt⟩,rfl,Jq ⟨3,v,fr,to,0,rg,0,op,0,false,Z8,[],[],[],[],0,ZL,Zr,Zt⟩ 3 rfl (by decide) (by decide) hv hfr hto (by simp only [kf,List.all_cons,List.all_nil,ZM,decide_true,Bool.and_true,Bool.true_and,Bool.or_true,Bool.true_or,List.length_cons,List.length_nil,ne_eq,not_true_eq_false,not_false_eq_true,hrg',hop.ok]) (by kernel_rfl),⟨by simp [Z8,Z4],by simp,by simp,by simp,by simp,by simp,Vj,Vl,Wj⟩,fun h=>⟨Ya,Jl,Z1⟩⟩
  ·refine Zf (if_pos (by kernel_rfl)) (Zb (Zp l _) fun _ _=>Zb (place _ 3 (by omega) (by omega)) fun rg hrg=>?_)
   have hrg':J0 rg=true:=by simp only [J0,decide_eq_true_eq];omega
   refine Zf (if_pos (by kernel_rfl)) (Zb (Zp l _) fun _ _=>Zb (s22 _) fun r ⟨op,hr,hop⟩=>?_)
   subst hr
   refine Zf (if_neg (Z2 (by kernel_rfl))) ?_
   refine Zf (if_neg (Z2 (by kernel_rfl))) ?_
   refine Zf (if_pos (by kernel_rfl)) ?_
   refine Zb (Zp l 6) fun _ _=>Zb (place _ 12 (by omega) (by omega)) fun sl hsl=>?_
   have hsl':Zbq sl=true:=by simp only [Zbq,decide_eq_true_eq];omega
   refine YM (s25 nd (Nat.le_trans hpa (by decide))) ?_
   exact Zg ⟨⟨4,v,fr,to,0,rg,sl,op,0,false,Z8,[],[nd],[],[],0,ZL,Zr,Zt⟩,rfl,Jq ⟨4,v,fr,to,0,rg,sl,op,0,false,Z8,[],[nd],[],[],0,ZL,Zr,Zt⟩ 4 rfl (by decide) (by decide) hv hfr hto (by simp only [kf,List.all_cons,List.all_nil,ZM,decide_true,Bool.and_true,Bool.true_and,Bool.or_true,Bool.true_or,List.length_cons,List.length_nil,ne_eq,not_true_eq_false,not_false_eq_true,hrg',hop.ok,hsl',hno];rfl) (by kernel_rfl),⟨by simp [Z8,Z4],by simp,by simp,by intro x hx;rw [List.mem_singleton] at hx;subst hx;exact hpa,by simp,by simp,Vj,Vl,Wj⟩,fun h=>⟨Ya,Jl,Z1⟩⟩
  ·refine Zf (if_pos (by kernel_rfl)) (Zb (Zp l _) fun _ _=>Zb (place _ 3 (by omega) (by omega)) fun rg hrg=>?_)
   have hrg':J0 rg=true:=by simp only [J0,decide_eq_true_eq];omega
   refine Zf (if_pos (by kernel_rfl)) (Zb (Zp l _) fun _ _=>Zb (s22 _) fun r ⟨op,hr,hop⟩=>?_)
   subst hr
   refine Zf (if_neg (Z2 (by kernel_rfl))) ?_
   refine Zf (if_neg (Z2 (by kernel_rfl))) ?_
   refine Zf (if_neg (Z2 (by kernel_rfl))) ?_
   refine Zf (if_pos (by kernel_rfl)) ?_
   refine Zb (Zp l 6) fun _ _=>Zb (place _ 20 (by omega) (by omega)) fun er her=>?_
   have her':ZdH er=true:=by simp only [ZdH,decide_eq_true_eq];omega
   exact Zg ⟨⟨5,v,fr,to,0,rg,0,op,er,false,Z8,[],[],[],[],0,ZL,Zr,Zt⟩,rfl,Jq ⟨5,v,fr,to,0,rg,0,op,er,false,Z8,[],[],[],[],0,ZL,Zr,Zt⟩ 5 rfl (by decide) (by decide) hv hfr hto (by simp only [kf,List.all_cons,List.all_nil,ZM,decide_true,Bool.and_true,Bool.true_and,Bool.or_true,Bool.true_or,List.length_cons,List.length_nil,ne_eq,not_true_eq_false,not_false_eq_true,hrg',hop.ok,her']) (by kernel_rfl),⟨by simp [Z8,Z4],by simp,by simp,by simp,by simp,by simp,Vj,Vl,Wj⟩,fun h=>⟨Ya,Jl,Z1⟩⟩
  ·refine Zf (if_pos (by kernel_rfl)) (Zb (Zp l _) fun _ _=>Zb (place _ 3 (by omega) (by omega)) fun rg hrg=>?_)
   have hrg':J0 rg=true:=by simp only [J0,decide_eq_true_eq];omega
   refine Zf (if_pos (by kernel_rfl)) (Zb (Zp l _) fun _ _=>Zb (s22 _) fun r ⟨op,hr,hop⟩=>?_)
   subst hr
   refine Zf (if_neg (Z2 (by kernel_rfl))) ?_
   refine Zf (if_neg (Z2 (by kernel_rfl))) ?_
   refine Zf (if_neg (Z2 (by kernel_rfl))) ?_
   refine Zf (if_neg (Z2 (by kernel_rfl))) ?_
   refine Zf (if_pos (by kernel_rfl)) ?_
   refine Zb (s24 l 6 (by omega)) fun r ⟨l1,hr,hl1,ql1⟩=>?_
   subst hr
   refine Zb (s26 l1 (by omega)) fun r ⟨is,hr,hi1,hi2⟩=>?_
   subst hr
   exact Zg ⟨⟨6,v,fr,to,0,rg,0,op,0,false,Z8,is,[],[],[],0,ZL,Zr,Zt⟩,rfl,Jq ⟨6,v,fr,to,0,rg,0,op,0,false,Z8,is,[],[],[],0,ZL,Zr,Zt⟩ 6 rfl (by decide) (by decide) hv hfr hto (by simp only [kf,List.all_cons,List.all_nil,ZM,decide_true,Bool.and_true,Bool.true_and,Bool.or_true,Bool.true_or,List.length_cons,List.length_nil,ne_eq,not_true_eq_false,not_false_eq_true,hrg',hop.ok,List.all_eq_true.2 hi2,show is.length≤64 by omega]) (by kernel_rfl),⟨by simp [Z8,Z4],hi1,by simp,by simp,by simp,by simp,Vj,Vl,Wj⟩,fun h=>⟨Ya,Jl,Z1⟩⟩
  ·refine Zf (if_pos (by kernel_rfl)) (Zb (Zp l _) fun _ _=>Zb (place _ 3 (by omega) (by omega)) fun rg hrg=>?_)
   have hrg':J0 rg=true:=by simp only [J0,decide_eq_true_eq];omega
   refine Zf (if_pos (by kernel_rfl)) (Zb (Zp l _) fun _ _=>Zb (s22 _) fun r ⟨op,hr,hop⟩=>?_)
   subst hr
   refine Zf (if_neg (Z2 (by kernel_rfl))) ?_
   refine Zf (if_neg (Z2 (by kernel_rfl))) ?_
   refine Zf (if_neg (Z2 (by kernel_rfl))) ?_
   refine Zf (if_neg (Z2 (by kernel_rfl))) ?_
   refine Zf (if_neg (Z2 (by kernel_rfl))) ?_
   refine Zf (if_neg (Z2 (by kernel_rfl))) ?_
   refine Zf (if_neg (Z2 (by kernel_rfl))) ?_
   refine Zf (if_neg (Z2 (by kernel_rfl))) ?_
   refine Zf (if_neg (Z2 (by kernel_rfl))) ?_
   exact Zg ⟨⟨7,v,fr,to,0,rg,0,op,0,false,Z8,[],[],[],[],0,ZL,Zr,Zt⟩,rfl,Jq ⟨7,v,fr,to,0,rg,0,op,0,false,Z8,[],[],[],[],0,ZL,Zr,Zt⟩ 7 rfl (by decide) (by decide) hv hfr hto (by simp only [kf,List.all_cons,List.all_nil,ZM,decide_true,Bool.and_true,Bool.true_and,Bool.or_true,Bool.true_or,List.length_cons,List.length_nil,ne_eq,not_true_eq_false,not_false_eq_true,hrg',hop.ok]) (by kernel_rfl),⟨by simp [Z8,Z4],by simp,by simp,by simp,by simp,by simp,Vj,Vl,Wj⟩,fun h=>⟨Ya,Jl,Z1⟩⟩
  ·refine Zf (if_pos (by kernel_rfl)) (Zb (Zp l _) fun _ _=>Zb (place _ 3 (by omega) (by omega)) fun rg hrg=>?_)
   have hrg':J0 rg=true:=by simp only [J0,decide_eq_true_eq];omega
   refine Zf (if_pos (by kernel_rfl)) (Zb (Zp l _) fun _ _=>Zb (s22 _) fun r ⟨op,hr,hop⟩=>?_)
   subst hr
   refine Zf (if_neg (Z2 (by kernel_rfl))) ?_
   refine Zf (if_neg (Z2 (by kernel_rfl))) ?_
   refine Zf (if_neg (Z2 (by kernel_rfl))) ?_
   refine Zf (if_neg (Z2 (by kernel_rfl))) ?_
   refine Zf (if_neg (Z2 (by kernel_rfl))) ?_
   refine Zf (if_neg (Z2 (by kernel_rfl))) ?_
   refine Zf (if_neg (Z2 (by kernel_rfl))) ?_
   refine Zf (if_neg (Z2 (by kernel_rfl))) ?_
   refine Zf (if_neg (Z2 (by kernel_rfl))) ?_
   exact Zg ⟨⟨8,v,fr,to,0,rg,0,op,0,false,Z8,[],[],[],[],0,ZL,Zr,Zt⟩,rfl,Jq ⟨8,v,fr,to,0,rg,0,op,0,false,Z8,[],[],[],[],0,ZL,Zr,Zt⟩ 8 rfl (by decide) (by decide) hv hfr hto (by simp only [kf,List.all_cons,List.all_nil,ZM,decide_true,Bool.and_true,Bool.true_and,Bool.or_true,Bool.true_or,List.length_cons,List.length_nil,ne_eq,not_true_eq_false,not_false_eq_true,hrg',hop.ok]) (by kernel_rfl),⟨by simp [Z8,Z4],by simp,by simp,by simp,by simp,by simp,Vj,Vl,Wj⟩,fun h=>⟨Ya,Jl,Z1⟩⟩
  ·refine Zf (if_pos (by kernel_rfl)) (Zb (Zp l _) fun _ _=>Zb (place _ 3 (by omega) (by omega)) fun rg hrg=>?_)
   have hrg':J0 rg=true:=by simp only [J0,decide_eq_true_eq];omega
   refine Zf (if_pos (by kernel_rfl)) (Zb (Zp l _) fun _ _=>Zb (s22 _) fun r ⟨op,hr,hop⟩=>?_)
   subst hr
   refine Zf (if_neg (Z2 (by kernel_rfl))) ?_
   refine Zf (if_neg (Z2 (by kernel_rfl))) ?_
   refine Zf (if_neg (Z2 (by kernel_rfl))) ?_
   refine Zf (if_neg (Z2 (by kernel_rfl))) ?_
   refine Zf (if_neg (Z2 (by kernel_rfl))) ?_
   refine Zf (if_neg (Z2 (by kernel_rfl))) ?_
   refine Zf (if_neg (Z2 (by kernel_rfl))) ?_
   refine Zf (if_neg (Z2 (by kernel_rfl))) ?_
   refine Zf (if_neg (Z2 (by kernel_rfl))) ?_
   exact Zg ⟨⟨9,v,fr,to,0,rg,0,op,0,false,Z8,[],[],[],[],0,ZL,Zr,Zt⟩,rfl,Jq ⟨9,v,fr,to,0,rg,0,op,0,false,Z8,[],[],[],[],0,ZL,Zr,Zt⟩ 9 rfl (by decide) (by decide) hv hfr hto (by simp only [kf,List.all_cons,List.all_nil,ZM,decide_true,Bool.and_true,Bool.true_and,Bool.or_true,Bool.true_or,List.length_cons,List.length_nil,ne_eq,not_true_eq_false,not_false_eq_true,hrg',hop.ok]) (by kernel_rfl),⟨by simp [Z8,Z4],by simp,by simp,by simp,by simp,by simp,Vj,Vl,Wj⟩,fun h=>⟨Ya,Jl,Z1⟩⟩
  ·refine Zf (if_pos (by kernel_rfl)) (Zb (Zp l _) fun _ _=>Zb (place _ 3 (by omega) (by omega)) fun rg hrg=>?_)
   have hrg':J0 rg=true:=by simp only [J0,decide_eq_true_eq];omega
   refine Zf (if_pos (by kernel_rfl)) (Zb (Zp l _) fun _ _=>Zb (s22 _) fun r ⟨op,hr,hop⟩=>?_)
   subst hr
   refine Zf (if_neg (Z2 (by kernel_rfl))) ?_
   refine Zf (if_neg (Z2 (by kernel_rfl))) ?_
   refine Zf (if_neg (Z2 (by kernel_rfl))) ?_
   refine Zf (if_neg (Z2 (by kernel_rfl))) ?_
   refine Zf (if_neg (Z2 (by kernel_rfl))) ?_
   refine Zf (if_neg (Z2 (by kernel_rfl))) ?_
   refine Zf (if_neg (Z2 (by kernel_rfl))) ?_
   refine Zf (if_neg (Z2 (by kernel_rfl))) ?_
   refine Zf (if_neg (Z2 (by kernel_rfl))) ?_
   exact Zg ⟨⟨10,v,fr,to,0,rg,0,op,0,false,Z8,[],[],[],[],0,ZL,Zr,Zt⟩,rfl,Jq ⟨10,v,fr,to,0,rg,0,op,0,false,Z8,[],[],[],[],0,ZL,Zr,Zt⟩ 10 rfl (by decide) (by decide) hv hfr hto (by simp only [kf,List.all_cons,List.all_nil,ZM,decide_true,Bool.and_true,Bool.true_and,Bool.or_true,Bool.true_or,List.length_cons,List.length_nil,ne_eq,not_true_eq_false,not_false_eq_true,hrg',hop.ok]) (by kernel_rfl),⟨by simp [Z8,Z4],by simp,by simp,by simp,by simp,by simp,Vj,Vl,Wj⟩,fun h=>⟨Ya,Jl,Z1⟩⟩
  ·refine Zf (if_pos (by kernel_rfl)) (Zb (Zp l _) fun _ _=>Zb (place _ 3 (by omega) (by omega)) fun rg hrg=>?_)
   have hrg':J0 rg=true:=by simp only [J0,decide_eq_true_eq];omega
   refine Zf (if_pos (by kernel_rfl)) (Zb (Zp l _) fun _ _=>Zb (s22 _) fun r ⟨op,hr,hop⟩=>?_)
   subst hr
   refine Zf (if_neg (Z2 (by kernel_rfl))) ?_
   refine Zf (if_neg (Z2 (by kernel_rfl))) ?_
   refine Zf (if_neg (Z2 (by kernel_rfl))) ?_
   refine Zf (if_neg (Z2 (by kernel_rfl))) ?_
   refine Zf (if_neg (Z2 (by kernel_rfl))) ?_
   refine Zf (if_neg (Z2 (by kernel_rfl))) ?_
   refine Zf (if_neg (Z2 (by kernel_rfl))) ?_
   refine Zf (if_neg (Z2 (by kernel_rfl))) ?_
   refine Zf (if_neg (Z2 (by kernel_rfl))) ?_
   exact Zg ⟨⟨11,v,fr,to,0,rg,0,op,0,false,Z8,[],[],[],[],0,ZL,Zr,Zt⟩,rfl,Jq ⟨11,v,fr,to,0,rg,0,op,0,false,Z8,[],[],[],[],0,ZL,Zr,Zt⟩ 11 rfl (by decide) (by decide) hv hfr hto (by simp only [kf,List.all_cons,List.all_nil,ZM,decide_true,Bool.and_true,Bool.true_and,Bool.or_true,Bool.true_or,List.length_cons,List.length_nil,ne_eq,not_true_eq_false,not_false_eq_true,hrg',hop.ok]) (by kernel_rfl),⟨by simp [Z8,Z4],by simp,by simp,by simp,by simp,by simp,Vj,Vl,Wj⟩,fun h=>⟨Ya,Jl,Z1⟩⟩
  ·refine Zf (if_neg (Z2 (by kernel_rfl))) (Zf (if_pos (by kernel_rfl)) (Zb (Zp l _) fun _ _=>Zb (place _ 5 (by omega) (by omega)) fun rnd hrnd=>?_))
   have hrnd':YQ rnd=true:=by simp only [YQ,decide_eq_true_eq];omega
   refine Zf (if_neg (Z2 (by kernel_rfl))) ?_
   refine Zf (if_neg (Z2 (by kernel_rfl))) ?_
   refine Zf (if_neg (Z2 (by kernel_rfl))) ?_
   refine Zf (if_neg (Z2 (by kernel_rfl))) ?_
   refine Zf (if_neg (Z2 (by kernel_rfl))) ?_
   refine Zf (if_pos (by kernel_rfl)) ?_
   refine Zb (Zp l 6) fun _ _=>Zb (s27 _) fun r ⟨cs,hr,hc1,hc2⟩=>?_
   subst hr
   exact Zg ⟨⟨12,v,fr,to,rnd,0,0,zid,0,false,Z8,[],[],cs,[],0,ZL,Zr,Zt⟩,rfl,Jq ⟨12,v,fr,to,rnd,0,0,zid,0,false,Z8,[],[],cs,[],0,ZL,Zr,Zt⟩ 12 rfl (by decide) (by decide) hv hfr hto (by simp only [kf,List.all_cons,List.all_nil,ZM,decide_true,Bool.and_true,Bool.true_and,Bool.or_true,Bool.true_or,List.length_cons,List.length_nil,ne_eq,not_true_eq_false,not_false_eq_true,hrnd',hc2]) (by kernel_rfl),⟨by simp [Z8,Z4],by simp,by simp,by simp,hc1,by simp,Vj,Vl,Wj⟩,fun h=>⟨Ya,Jl,Z1⟩⟩
  ·refine Zf (if_neg (Z2 (by kernel_rfl))) (Zf (if_pos (by kernel_rfl)) (Zb (Zp l _) fun _ _=>Zb (place _ 5 (by omega) (by omega)) fun rnd hrnd=>?_))
   have hrnd':YQ rnd=true:=by simp only [YQ,decide_eq_true_eq];omega
   refine Zf (if_neg (Z2 (by kernel_rfl))) ?_
   refine Zf (if_neg (Z2 (by kernel_rfl))) ?_
   refine Zf (if_neg (Z2 (by kernel_rfl))) ?_
   refine Zf (if_neg (Z2 (by kernel_rfl))) ?_
   refine Zf (if_neg (Z2 (by kernel_rfl))) ?_
   refine Zf (if_neg (Z2 (by kernel_rfl))) ?_
   refine Zf (if_pos (by kernel_rfl)) ?_
   refine Zb (s24 l 6 (by omega)) fun r ⟨l1,hr,hl1,ql1⟩=>?_
   subst hr
   refine Zb (s28 l1 f n hf hn) fun r ⟨p,hr,hp,hpc⟩=>?_
   subst hr
   exact Zg ⟨⟨13,v,fr,to,rnd,0,0,zid,0,false,Z8,[],[],[],[],0,ZL,Zr,p⟩,rfl,Jq ⟨13,v,fr,to,rnd,0,0,zid,0,false,Z8,[],[],[],[],0,ZL,Zr,p⟩ 13 rfl (by decide) (by decide) hv hfr hto (by simp only [kf,List.all_cons,List.all_nil,ZM,decide_true,Bool.and_true,Bool.true_and,Bool.or_true,Bool.true_or,List.length_cons,List.length_nil,ne_eq,not_true_eq_false,not_false_eq_true,hrnd',hp.ok]) (by kernel_rfl),⟨by simp [Z8,Z4],by simp,by simp,by simp,by simp,by simp,Vj,Vl,hp⟩,fun h=>⟨Ya,Jl,hpc (ql1 h)⟩⟩
  ·refine Zf (if_neg (Z2 (by kernel_rfl))) (Zf (if_pos (by kernel_rfl)) (Zb (Zp l _) fun _ _=>Zb (place _ 5 (by omega) (by omega)) fun rnd hrnd=>?_))
   have hrnd':YQ rnd=true:=by simp only [YQ,decide_eq_true_eq];omega
   refine Zf (if_neg (Z2 (by kernel_rfl))) ?_
   refine Zf (if_neg (Z2 (by kernel_rfl))) ?_
   refine Zf (if_neg (Z2 (by kernel_rfl))) ?_
   refine Zf (if_neg (Z2 (by kernel_rfl))) ?_
   refine Zf (if_neg (Z2 (by kernel_rfl))) ?_
   refine Zf (if_neg (Z2 (by kernel_rfl))) ?_
   refine Zf (if_neg (Z2 (by kernel_rfl))) ?_
   refine Zf (if_pos (by kernel_rfl)) ?_
   refine Zb (Zp l 5) fun _ _=>Zb (place _ 70 (by omega) (by omega)) fun bs hbs=>?_
   have hbs':YQ bs=true:=by simp only [YQ,decide_eq_true_eq];omega
   refine Zb (Zp l 6) fun _ _=>Zb (s27 _) fun r ⟨cs,hr,hc1,hc2⟩=>?_
   subst hr
   refine Zb (s24 l 7 (by omega)) fun r ⟨l1,hr,hl1,ql1⟩=>?_
   subst hr
   refine Zb (s29 l1) fun r ⟨nv,hr,hnv⟩=>?_
   subst hr
   refine Zb (s24 l 8 (by omega)) fun r ⟨l2,hr,hl2,ql2⟩=>?_
   subst hr
   refine Zb (Zp l 9) fun _ _=>Zb (place _ 4 (by omega) (by omega)) fun c9 hc9=>?_
   refine Zb (s30 l2 f n hf hn c9) fun r ⟨ss,hr,hss,hsc⟩=>?_
   subst hr
   exact Zg ⟨⟨14,v,fr,to,rnd,0,0,zid,0,false,Z8,[],[],cs,[],bs,nv,ss,Zt⟩,rfl,Jq ⟨14,v,fr,to,rnd,0,0,zid,0,false,Z8,[],[],cs,[],bs,nv,ss,Zt⟩ 14 rfl (by decide) (by decide) hv hfr hto (by simp only [kf,List.all_cons,List.all_nil,ZM,decide_true,Bool.and_true,Bool.true_and,Bool.or_true,Bool.true_or,List.length_cons,List.length_nil,ne_eq,not_true_eq_false,not_false_eq_true,hrnd',hbs',hc2,hnv.ok,hss.ok]) (by kernel_rfl),⟨by simp [Z8,Z4],by simp,by simp,by simp,hc1,by simp,hnv,hss.short hf,Wj⟩,fun h=>⟨Ya,hsc (ql2 h),Z1⟩⟩
  ·refine Zf (if_neg (Z2 (by kernel_rfl))) (Zf (if_pos (by kernel_rfl)) (Zb (Zp l _) fun _ _=>Zb (place _ 5 (by omega) (by omega)) fun rnd hrnd=>?_))
   have hrnd':YQ rnd=true:=by simp only [YQ,decide_eq_true_eq];omega
   refine Zf (if_neg (Z2 (by kernel_rfl))) ?_
   refine Zf (if_neg (Z2 (by kernel_rfl))) ?_
   refine Zf (if_neg (Z2 (by kernel_rfl))) ?_
   refine Zf (if_neg (Z2 (by kernel_rfl))) ?_
   refine Zf (if_neg (Z2 (by kernel_rfl))) ?_
   refine Zf (if_neg (Z2 (by kernel_rfl))) ?_
   refine Zf (if_neg (Z2 (by kernel_rfl))) ?_
   refine Zf (if_neg (Z2 (by kernel_rfl))) ?_
   refine Zf (if_neg (Z2 (by kernel_rfl))) ?_
   exact Zg ⟨⟨15,v,fr,to,rnd,0,0,zid,0,false,Z8,[],[],[],[],0,ZL,Zr,Zt⟩,rfl,Jq ⟨15,v,fr,to,rnd,0,0,zid,0,false,Z8,[],[],[],[],0,ZL,Zr,Zt⟩ 15 rfl (by decide) (by decide) hv hfr hto (by simp only [kf,List.all_cons,List.all_nil,ZM,decide_true,Bool.and_true,Bool.true_and,Bool.or_true,Bool.true_or,List.length_cons,List.length_nil,ne_eq,not_true_eq_false,not_false_eq_true,hrnd']) (by kernel_rfl),⟨by simp [Z8,Z4],by simp,by simp,by simp,by simp,by simp,Vj,Vl,Wj⟩,fun h=>⟨Ya,Jl,Z1⟩⟩
  ·refine Zf (if_neg (Z2 (by kernel_rfl))) (Zf (if_pos (by kernel_rfl)) (Zb (Zp l _) fun _ _=>Zb (place _ 5 (by omega) (by omega)) fun rnd hrnd=>?_))
   have hrnd':YQ rnd=true:=by simp only [YQ,decide_eq_true_eq];omega
   refine Zf (if_neg (Z2 (by kernel_rfl))) ?_
   refine Zf (if_neg (Z2 (by kernel_rfl))) ?_
   refine Zf (if_neg (Z2 (by kernel_rfl))) ?_
   refine Zf (if_neg (Z2 (by kernel_rfl))) ?_
   refine Zf (if_neg (Z2 (by kernel_rfl))) ?_
   refine Zf (if_neg (Z2 (by kernel_rfl))) ?_
   refine Zf (if_neg (Z2 (by kernel_rfl))) ?_
   refine Zf (if_neg (Z2 (by kernel_rfl))) ?_
   refine Zf (if_neg (Z2 (by kernel_rfl))) ?_
   exact Zg ⟨⟨16,v,fr,to,rnd,0,0,zid,0,false,Z8,[],[],[],[],0,ZL,Zr,Zt⟩,rfl,Jq ⟨16,v,fr,to,rnd,0,0,zid,0,false,Z8,[],[],[],[],0,ZL,Zr,Zt⟩ 16 rfl (by decide) (by decide) hv hfr hto (by simp only [kf,List.all_cons,List.all_nil,ZM,decide_true,Bool.and_true,Bool.true_and,Bool.or_true,Bool.true_or,List.length_cons,List.length_nil,ne_eq,not_true_eq_false,not_false_eq_true,hrnd']) (by kernel_rfl),⟨by simp [Z8,Z4],by simp,by simp,by simp,by simp,by simp,Vj,Vl,Wj⟩,fun h=>⟨Ya,Jl,Z1⟩⟩
  ·refine Zf (if_neg (Z2 (by kernel_rfl))) (Zf (if_neg (Z2 (by kernel_rfl))) ?_)
   refine Zf (if_neg (Z2 (by kernel_rfl))) ?_
   refine Zf (if_neg (Z2 (by kernel_rfl))) ?_
   refine Zf (if_neg (Z2 (by kernel_rfl))) ?_
   refine Zf (if_neg (Z2 (by kernel_rfl))) ?_
   refine Zf (if_neg (Z2 (by kernel_rfl))) ?_
   refine Zf (if_neg (Z2 (by kernel_rfl))) ?_
   refine Zf (if_neg (Z2 (by kernel_rfl))) ?_
   refine Zf (if_neg (Z2 (by kernel_rfl))) ?_
   refine Zf (if_pos (by kernel_rfl)) ?_
   refine Zb (Zp l 6) fun _ _=>Zb (s27 _) fun r ⟨cs,hr,hc1,hc2⟩=>?_
   subst hr
   refine Zkc (Zyo l ⟨17,v,fr,to,0,0,0,zid,0,false,Z8,[],[],cs,[],0,ZL,Zr,Zt⟩) fun r ⟨ns,hr,hn1,hn2⟩=>?_
   exact ⟨⟨17,v,fr,to,0,0,0,zid,0,false,Z8,[],[],cs,ns,0,ZL,Zr,Zt⟩,hr,Jq ⟨17,v,fr,to,0,0,0,zid,0,false,Z8,[],[],cs,ns,0,ZL,Zr,Zt⟩ 17 rfl (by decide) (by decide) hv hfr hto (by simp only [kf,List.all_cons,List.all_nil,ZM,decide_true,Bool.and_true,Bool.true_and,Bool.or_true,Bool.true_or,List.length_cons,List.length_nil,ne_eq,not_true_eq_false,not_false_eq_true,hc2,List.all_eq_true.2 hn2,show ns.length≤16 by omega]) (by kernel_rfl),⟨by simp [Z8,Z4],by simp,by simp,by simp,hc1,hn1,Vj,Vl,Wj⟩,fun h=>⟨Ya,Jl,Z1⟩⟩
end Go.Proofs.YtjldbnbdcmfbmaaGreat
end

section
namespace Go.Proofs.YtjldbnbdcmfbmaaGreat
open Go Go.AM
set_option linter.unusedSimpArgs false
set_option linter.unusedVariables false
set_option maxRecDepth 100000
theorem e9:g12 3 1 0 2 0 1 0 0 5 0 0 false 0 0 0 0 0 0 0 0 0 0 0 0 0 0 0 0 0 0 0 0 E0 0 0 0 0 0 0 false E0 E0 E0 E0 0 0 E0 E0 E0 E0 E0 E0 E0 E0 0 0 E0 E0 E0 E0 E0 E0 E0 E0 false 0 E0 E0 E0 E0 E0 E0 E0 E0=some true:=by kernel_rfl
theorem e7:g14 3 1 0 2 0 1 0 0 5 0 0 false 0 0 0 0 0 0 0 0 0 0 0 0 0 0 0 0 0 0 0 0 E0 0 0 0 0 0 0 false E0 E0 E0 E0 0 0 E0 E0 E0 E0 E0 E0 E0 E0 0 0 E0 E0 E0 E0 E0 E0 E0 E0 false 0 E0 E0 E0 E0 E0 E0 E0 E0=some ((Zd [3,1,0,2,1,0,5,0]),0):=by kernel_rfl
theorem e17:g19 3 1 0 2 0 1 0 0 5 0 0 false 0 0 0 0 0 0 0 0 0 0 0 0 0 0 0 0 0 0 0 0 E0 0 0 0 0 0 0 false E0 E0 E0 E0 0 0 E0 E0 E0 E0 E0 E0 E0 E0 0 0 E0 E0 E0 E0 E0 E0 E0 E0 false 0 E0 E0 E0 E0 E0 E0 E0 E0 3 1 0 2 0 1 0 0 5 0 0 false 0 0 0 0 0 0 0 0 0 0 0 0 0 0 0 0 0 0 0 0 E0 0 0 0 0 0 0 false E0 E0 E0 E0 0 0 E0 E0 E0 E0 E0 E0 E0 E0 0 0 E0 E0 E0 E0 E0 E0 E0 E0 false 0 E0 E0 E0 E0 E0 E0 E0 E0=some true:=by kernel_rfl
theorem e16:g17 (Zd [3,1,0,2,1,0,5,0])=some (3,1,0,2,0,1,0,0,5,0,0,false,0,0,0,0,0,0,0,0,0,0,0,0,0,0,0,0,0,0,0,0,E0,0,0,0,0,0,0,false,E0,E0,E0,E0,0,0,E0,E0,E0,E0,E0,E0,E0,E0,0,0,E0,E0,E0,E0,E0,E0,E0,E0,false,0,E0,E0,E0,E0,E0,E0,E0,E0,0):=by kernel_rfl
theorem s9:g9=some true:=by
 rw [ZzS,e7,Option.bind_some]
 dsimp only
 rw [e16,Option.bind_some]
 dsimp only [d2,d4,d8,d16]
 rw [e17,e9]
 refine JE (fun _=>?_) fun h=>absurd (by decide) h
 refine JE (fun _=>?_) fun h=>absurd (by decide) h
 refine ZoV (of_decide_eq_true (by kernel_rfl)) ?_
 refine JE (fun _=>rfl) fun h=>absurd (by rw [ByteArray.toList_eq,ByteArray.toList_eq];decide) h
end Go.Proofs.YtjldbnbdcmfbmaaGreat
end

section
namespace Go.Proofs.YtjldbnbdcmfbmaaGreat
open Go Go.AM
set_option linter.unusedSimpArgs false
set_option linter.unusedVariables false
set_option maxRecDepth 100000
end Go.Proofs.YtjldbnbdcmfbmaaGreat
end

section
namespace Go.Proofs.YtjldbnbdcmfbmaaGreat
open Go Go.AM
set_option linter.unusedSimpArgs false
set_option linter.unusedVariables false
set_option maxRecDepth 100000
end Go.Proofs.YtjldbnbdcmfbmaaGreat
end

section
namespace Go.Proofs.YtjldbnbdcmfbmaaGreat
open Go Go.AM
set_option linter.unusedSimpArgs false
set_option linter.unusedVariables false
set_option maxRecDepth 100000
end Go.Proofs.YtjldbnbdcmfbmaaGreat
end

section
namespace Go.Proofs.YtjldbnbdcmfbmaaGreat
open Go Go.AM
set_option linter.unusedSimpArgs false
set_option linter.unusedVariables false
set_option maxRecDepth 100000
theorem JY (l:List Int):(Zd l).length=l.length:=by simp [Zd]
theorem Zj1 {l:List Int} (h:J5 l):Zhp (Zd l):=by
 intro e he
 obtain ⟨z,hz,rfl⟩:=List.mem_map.1 he
 exact ⟨z,(h z hz).1,(h z hz).2,rfl⟩
theorem Zq7 (z:Int):IntKind.wrap .u8 z=z % 256:=by
 have hb:IntKind.u8.bits=8:=rfl
 have hs:IntKind.u8.signed=false:=rfl
 simp [IntKind.wrap,hb,hs]
theorem ZkA {a:Int} {n:Nat} (h:n≤64):iop .shr .i64 a n=a / 2^n:=by
 have hmin:min ((n:Int)).toNat IntKind.i64.bits=n:=by
  have:IntKind.i64.bits=64:=rfl
  omega
 simp only [iop,hmin]
 rw [Int.fdiv_eq_ediv_of_nonneg _ (by have:=J2 n;omega)]
def J9 (c:Cap):List Int:=[c.kind,c.bits,c.rights+(if c.device=true then 8 else 0),c.width,c.level,c.base % 256,c.base / 256 % 256,c.base / 65536 % 256,c.base / 16777216 % 256,c.base / 4294967296 % 256]
def Zi4 (c:Cap):List Int:=if Yr c=true then J9 c else []
def Zxr (c:Cap):Int:=if Yr c=true then 0 else 1
theorem Ze9 {c:Cap} (h:Yr c=true):1≤c.kind∧c.kind≤6∧6≤c.bits∧c.bits≤40∧0≤c.rights∧c.rights≤7∧0≤c.width∧c.width≤39∧0≤c.level∧c.level≤2∧0≤c.base∧c.base < 1099511627776:=by
 obtain ⟨r1,r2,r3,r4,r5⟩:=ZbQ (Znq h)
 have hp:=J2 c.bits.toNat
 simp only [Yr,Bool.and_eq_true,decide_eq_true_eq] at h
 obtain ⟨⟨⟨⟨h1,h2⟩,h3⟩,h4⟩,h5⟩:=h
 simp only [Vo,decide_eq_true_eq] at h1
 have h6:0≤c.width∧c.width≤39∧0≤c.level∧c.level≤2:=by
  split at h4
  ·simp only [Zbu,decide_eq_true_eq] at h4
   omega
  ·simp only [decide_eq_true_eq] at h4
   omega
 omega
theorem room1 {a b:List (List AV)} (ha:a.length≤200000000000) (hb:b.length≤200000000000):Ju a b 1:=by
 unfold Ju JD
 omega
theorem ZjU {f:Nat} {k b s r w l:Int} {d:Bool} {x0 x1 x2 x3 x4:Int} : Zge (f+1+1+1+1+1+1) k b s r w l d (Zd [x0,x1,x2,x3,x4]) 0 =
  some (Zd [x0,x1,x2,x3,x4,b % 256,b / 256 % 256,b / 65536 % 256,b / 16777216 % 256,b / 4294967296 % 256],0):=by
 have q0:iop .shr .i64 b (iop .mul .i64 8 0)=b:=by rw [show iop .mul .i64 8 0=((0:Nat):Int) by decide,ZkA (by decide)];simp
 have q1:iop .shr .i64 b (iop .mul .i64 8 1)=b / 256:=by rw [show iop .mul .i64 8 1=((8:Nat):Int) by decide,ZkA (by decide)];rfl
 have q2:iop .shr .i64 b (iop .mul .i64 8 2)=b / 65536:=by rw [show iop .mul .i64 8 2=((16:Nat):Int) by decide,ZkA (by decide)];rfl
 have q3:iop .shr .i64 b (iop .mul .i64 8 3)=b / 16777216:=by rw [show iop .mul .i64 8 3=((24:Nat):Int) by decide,ZkA (by decide)];rfl
 have q4:iop .shr .i64 b (iop .mul .i64 8 4)=b / 4294967296:=by rw [show iop .mul .i64 8 4=((32:Nat):Int) by decide,ZkA (by decide)];rfl
 rw [K1,if_pos (by decide),Zl (by decide),Zl (room1 (by simp [Zd]) (by simp)),q0,show iop .add .i64 0 1=1 by decide,
  K1,if_pos (by decide),Zl (by decide),Zl (room1 (by simp [Zd]) (by simp)),q1,show iop .add .i64 1 1=2 by decide,
  K1,if_pos (by decide),Zl (by decide),Zl (room1 (by simp [Zd]) (by simp)),q2,show iop .add .i64 2 1=3 by decide,
  K1,if_pos (by decide),Zl (by decide),Zl (room1 (by simp [Zd]) (by simp)),q3,show iop .add .i64 3 1=4 by decide,
  K1,if_pos (by decide),Zl (by decide),Zl (room1 (by simp [Zd]) (by simp)),q4,show iop .add .i64 4 1=5 by decide,
  K1,if_neg (by decide)]
 simp only [Zq7]
 rfl
theorem ZA6 (k b s r w l:Int) (d:Bool):Zyw k b s r w l d=some (Zd (Zi4 ⟨k,b,s,r,w,l,d⟩),Zxr ⟨k,b,s,r,w,l,d⟩):=by
 rw [ZsC,ZAM]
 simp only [Option.bind_some]
 cases hc:Yr ⟨k,b,s,r,w,l,d⟩ with
 | false => simp [Zi4, Zxr, hc, Zd]
 | true =>
  obtain ⟨h1,h2,h3,h4,h5,h6,h7,h8,h9,h10,h11,h12⟩:=Ze9 hc
  simp only at h1 h2 h3 h4 h5 h6 h7 h8 h9 h10 h11 h12
  have a8:iop .add .i64 r 8=r+8:=J8 (by omega) (by omega)
  have w1:k % 256=k:=by omega
  have w2:s % 256=s:=by omega
  have w3:r % 256=r:=by omega
  have w4:(r+8) % 256=r+8:=by omega
  have w5:w % 256=w:=by omega
  have w6:l % 256=l:=by omega
  obtain ⟨f,hf⟩:=Zov
  simp only [Bool.not_true,Bool.false_eq_true,if_false,Zq7,a8,w1,w2,w3,w4,w5,w6,hf]
  cases d
  ·have:=ZjU (f:=f) (k:=k) (b:=b) (s:=s) (r:=r) (w:=w) (l:=l) (d:=false) (x0:=k) (x1:=s) (x2:=r) (x3:=w) (x4:=l)
   rw [if_neg (by simp)]
   simp only [Zi4,Zxr,hc,if_true,J9,Bool.false_eq_true,if_false,Int.add_zero]
   exact this
  ·have:=ZjU (f:=f) (k:=k) (b:=b) (s:=s) (r:=r) (w:=w) (l:=l) (d:=true) (x0:=k) (x1:=s) (x2:=r+8) (x3:=w) (x4:=l)
   rw [if_pos rfl]
   simp only [Zi4,Zxr,hc,if_true,J9]
   exact this
end Go.Proofs.YtjldbnbdcmfbmaaGreat
end

section
namespace Go.Proofs.YtjldbnbdcmfbmaaGreat
open Go Go.AM
set_option linter.unusedSimpArgs false
set_option linter.unusedVariables false
set_option maxRecDepth 100000
def uvm:Nat→Nat→List Int
 | 0, _ => []
 | 1, v => [((v % 128 : Nat) : Int)]
 | m + 2, v => ((v % 128 + 128 : Nat) : Int) :: uvm (m + 1) (v / 128)
def cnt:Nat→Nat→Nat
 | 0, _ => 0
 | k + 1, r => if r = 0 then 0 else 1 + cnt k (r / 128)
def uvN (v:Nat):Nat:=1+cnt 10 (v / 128)
def uv (v:Nat):List Int:=uvm (uvN v) v
theorem ZmF:∀ (k r:Nat),cnt k r≤k
 | 0, _ => Nat.le_refl _
 | k + 1, r => by
  unfold cnt
  split
  ·omega
  ·have:=ZmF k (r / 128)
   omega
theorem ZmT:∀ (m v:Nat),(uvm m v).length=m
 | 0, _ => rfl
 | 1, _ => rfl
 | m + 2, v => by simp [uvm, ZmT (m + 1)]
theorem ZgF:∀ (m v:Nat),J5 (uvm m v)
 | 0, _ => by simp [uvm, J5]
 | 1, v => by
  intro z hz
  rw [uvm,List.mem_singleton] at hz
  omega
 | m + 2, v => by
  intro z hz
  rw [uvm,List.mem_cons] at hz
  rcases hz with rfl | hz
  ·omega
  ·exact ZgF (m+1) (v / 128) z hz
theorem ZyD (r:Nat):iop .shr .u64 (r:Int) 7=((r / 128:Nat):Int):=by
 have hmin:min ((7:Int)).toNat IntKind.u64.bits=7:=by
  have:IntKind.u64.bits=64:=rfl
  omega
 simp only [iop,hmin]
 rw [Int.fdiv_eq_ediv_of_nonneg _ (by decide)]
 rfl
theorem Zvm (v:Nat):IntKind.wrap .u8 (iop .and .u64 (v:Int) 127)=((v % 128:Nat):Int):=by
 have h1:(BitVec.ofInt 64 (v:Int)&&& BitVec.ofInt 64 127).toNat=v % 128:=by
  rw [BitVec.toNat_and,BitVec.toNat_ofInt,BitVec.toNat_ofInt]
  have h127:((127:Int) % ((2^64:Nat):Int)).toNat=2^7-1:=by decide
  rw [h127,Nat.and_two_pow_sub_one_eq_mod]
  have h65:(2:Nat)^64=18446744073709551616:=by decide
  have h7:(2:Nat)^7=128:=by decide
  rw [h65,h7]
  omega
 show IntKind.wrap .u8 (IntKind.wrap .u64 (((BitVec.ofInt 64 (v:Int)&&& BitVec.ofInt 64 127).toNat:Nat):Int))=_
 rw [h1,Ys (by omega) (by have:(2:Int)^64=18446744073709551616:=(by decide);omega),Zq7]
 omega
theorem Zzt {c:Nat} (h:c < 128):iop .or .u8 (c:Int) 128=((c+128:Nat):Int):=by
 have:∀ c:Fin 128,iop .or .u8 ((c.val:Nat):Int) 128=((c.val+128:Nat):Int):=by decide +kernel
 exact this ⟨c,h⟩
theorem ZgK (a b:List Int):Zd (a++b)=Zd a++Zd b:=by simp [Zd]
theorem Zkf:∀ (a b:List Int) (y z:Int),Z0 (Zd (a++y::b)) a.length 0 [AV.val (.int .u8 z)]=Zd (a++z::b)
 | [], b, y, z => by simp [Z0, Zd, u8c, setCells, List.modify_zero_cons]
 | x :: a, b, y, z => by
  have ih:=Zkf a b y z
  simp only [Z0,Zd] at ih ⊢
  simp only [List.cons_append,List.map_cons,List.length_cons,List.modify_succ_cons,ih]
theorem Zzs {x0:List (List AV)} {v:Int} (hx:x0.length≤100000000000):∀ (k fuel r s:Nat),r < 128^k→k < fuel→s+k≤100→∀ (y:Option (List (List AV))),
  ZcO ZE x0 v ((s+cnt k r:Nat):Int) (ZkE (List.replicate (x0.length+(s+cnt k r)) [AV.val (.int .u8 0)]) x0) 0=y→Zgt fuel x0 v s r=y:=by
 have exit:∀ (f s:Nat),s≤100→∀ (y:Option (List (List AV))),ZcO ZE x0 v (s:Int) (ZkE (List.replicate (x0.length+s) [AV.val (.int .u8 0)]) x0) 0=y→Zgt (f+1) x0 v s (0:Nat)=y:=by
  intro f s hs y hy
  have ha:iop .add .i64 (x0.length:Int) (s:Int)=((x0.length+s:Nat):Int):=by rw [J8 (by omega) (by omega)];omega
  rw [Zgq,if_neg (by decide),ha,Zl ⟨by omega,by unfold JD;omega⟩,Zl (Int.le_refl _),Zl (Int.le_refl _),Int.toNat_natCast]
  exact hy
 intro k
 induction k with
 | zero =>
  intro fuel r s hr hf hs y hy
  obtain ⟨f,rfl⟩:∃ f,fuel=f+1:=⟨fuel-1,by omega⟩
  have h0:r=0:=by simpa using hr
  subst h0
  exact exit f s (by omega) y hy
 | succ k ih =>
  intro fuel r s hr hf hs y hy
  obtain ⟨f,rfl⟩:∃ f,fuel=f+1:=⟨fuel-1,by omega⟩
  by_cases h0:r=0
  ·subst h0
   exact exit f s (by omega) y hy
  ·have hc:cnt (k+1) r=1+cnt k (r / 128):=by rw [cnt,if_neg h0]
   have hd:r / 128 < 128^k:=by
    rw [Nat.pow_succ] at hr
    exact Nat.div_lt_of_lt_mul (by omega)
   have a4:iop .add .i64 (s:Int) 1=((s+1:Nat):Int):=by rw [J8 (by omega) (by omega)];omega
   rw [Zgq,if_pos (by simp only [CQ];omega),Zl (by decide),a4,ZyD]
   refine ih f (r / 128) (s+1) hd (by omega) (by omega) y ?_
   rw [hc] at hy
   rw [show s+1+cnt k (r / 128)=s+(1+cnt k (r / 128)) by omega]
   exact hy
theorem ZxW (l:List Int) {size:Nat} (hl:l.length+size≤200000000000):∀ (m fuel i v:Nat) (done:List Int),size=i+m→m < fuel→done.length=i→
  ZcO fuel (Zd l) (v:Int) (size:Int) (Zd (l++done++List.replicate m 0)) (i:Int)=some (Zd (l++done++uvm m v)):=by
 intro m
 induction m with
 | zero =>
  intro fuel i v done h hf hd
  obtain ⟨f,rfl⟩:∃ f,fuel=f+1:=⟨fuel-1,by omega⟩
  rw [ZgI,if_neg (by simp only [CQ];omega)]
  simp [uvm]
 | succ m ih =>
  intro fuel i v done h hf hd
  obtain ⟨f,rfl⟩:∃ f,fuel=f+1:=⟨fuel-1,by omega⟩
  have a1:iop .sub .i64 (size:Int) 1=((size-1:Nat):Int):=by rw [Zh2 (by omega) (by omega)];omega
  have a2:iop .add .i64 (l.length:Int) (i:Int)=((l.length+i:Nat):Int):=by rw [J8 (by omega) (by omega)];omega
  have a3:iop .add .i64 (i:Int) 1=((i+1:Nat):Int):=by rw [J8 (by omega) (by omega)];omega
  have hat:(l++done).length=l.length+i:=by simp [hd]
  have hset:∀ z:Int,Z0 (Zd (l++done++List.replicate (m+1) 0)) (l.length+i) 0 [AV.val (.int .u8 z)]=Zd (l++(done++[z])++List.replicate m 0):=by
   intro z
   have:=Zkf (l++done) (List.replicate m 0) 0 z
   rw [hat] at this
   rw [List.replicate_succ,this]
   simp [List.append_assoc]
  have hL:List.length (Zd (l++done++List.replicate (m+1) 0))=l.length+size:=by rw [JY];simp [hd];omega
  rw [ZgI,if_pos (by simp only [CQ];omega),hL,JY l,a1,a2,a3,ZyD,Int.toNat_natCast,Zvm,Zzt (Nat.mod_lt _ (by decide)),hset,hset]
  cases m with
  | zero =>
   rw [if_neg (by simp only [CQ];omega),Zl (by omega),Zl (by omega),Zl (by omega),Zl (by omega),Zl (by decide)]
   have:=ih f (i+1) (v / 128) (done++[((v % 128:Nat):Int)]) (by omega) (by omega) (by simp [hd])
   rw [this]
   simp [uvm]
  | succ m =>
   rw [if_pos (by simp only [CQ];omega),Zl (by omega),Zl (by omega),Zl (by omega),Zl (by omega),Zl (by decide)]
   have:=ih f (i+1) (v / 128) (done++[((v % 128+128:Nat):Int)]) (by omega) (by omega) (by simp [hd])
   rw [this]
   simp [uvm,List.append_assoc]
theorem Zo1 (l:List Int) (n:Nat):ZkE (List.replicate (l.length+n) [AV.val (.int .u8 0)]) (Zd l)=Zd (l++List.replicate n 0):=by
 unfold ZkE
 rw [List.length_replicate,List.take_of_length_le (by rw [JY];omega),JY,List.drop_replicate,ZgK]
 have:l.length+n-l.length=n:=by omega
 rw [this]
 congr 1
 simp [Zd,u8c]
theorem ZAJ (l:List Int) (hl:l.length≤100000000000) (v:Nat) (hv:v < 2^64):Zsu (Zd l) v=some (Zd (l++uv v)):=by
 rw [Zsm,Zl (by decide),ZyD]
 have h64:(2:Nat)^64=18446744073709551616:=by decide
 have h128:(128:Nat)^10=1180591620717411303424:=by decide
 refine Zzs (by rw [JY];exact hl) 10 ZE (v / 128) 1 (by omega) (Vk (by decide)) (by decide) _ ?_
 rw [JY,Zo1]
 have hc:=ZmF 10 (v / 128)
 have:=ZxW l (size:=1+cnt 10 (v / 128)) (by omega) (1+cnt 10 (v / 128)) ZE 0 v [] (by omega) (Vk (by omega)) rfl
 rw [List.append_nil] at this
 exact this
theorem KE (v:Nat):(uv v).length=uvN v:=ZmT _ _
theorem ZaA (v:Nat):uvN v≤11:=by have:=ZmF 10 (v / 128);unfold uvN;omega
theorem V8 (v:Nat):J5 (uv v):=ZgF _ _
def idB (i:Id):List Int:=uv i.core.toNat++uv i.op.toNat++uv i.part.toNat
theorem Vr (i:Id):(idB i).length≤33:=by
 have h1:=ZaA i.core.toNat
 have h2:=ZaA i.op.toNat
 have h3:=ZaA i.part.toNat
 simp only [idB,List.length_append,KE]
 omega
theorem Zhd (l:List Int) (hl:l.length≤100000000000) (z:Int) (h0:0≤z) (h1:z < 2^63):Zsu (Zd l) (IntKind.wrap .u64 z)=some (Zd (l++uv z.toNat)):=by
 have h63:(2:Int)^63=9223372036854775808:=by decide
 have h64:(2:Int)^64=18446744073709551616:=by decide
 have h64':(2:Nat)^64=18446744073709551616:=by decide
 have e:IntKind.wrap .u64 z=((z.toNat:Nat):Int):=by rw [Ys h0 (by omega)];omega
 rw [e]
 exact ZAJ l hl z.toNat (by omega)
theorem ZiM {i:Id} (h:K3 i=true):0≤i.core∧i.core < 32∧1≤i.op∧i.op≤1073741824∧0≤i.part∧i.part < 8:=by simpa [K3] using h
theorem ZAL (l:List Int) (hl:l.length≤90000000000) (i:Id) (hi:K3 i=true):ZtF (Zd l) i.core i.op i.part=some (Zd (l++idB i)):=by
 obtain ⟨h1,h2,h3,h4,h5,h6⟩:=ZiM hi
 obtain ⟨f,hf⟩:=Zov
 have h63:(2:Int)^63=9223372036854775808:=by decide
 have u1:=ZaA i.core.toNat
 have u2:=ZaA i.op.toNat
 have e:(((E0++[[AV.val (.int .i64 i.core)]])++[[AV.val (.int .i64 i.op)]])++[[AV.val (.int .i64 i.part)]]) = [Wf i.core,Wf i.op,Wf i.part]:=rfl
 have e1:iop .add .i64 0 1=1:=by decide
 have e2:iop .add .i64 1 1=2:=by decide
 have e3:iop .add .i64 2 1=3:=by decide
 have hlen:(([Wf i.core,Wf i.op,Wf i.part] : List (List AV)).length:Int)=3:=rfl
 rw [ZmU,e,hf,hlen]
 rw [Y0,if_pos (by decide),YA (sh:=[.int .i64]) (cs:=Wf i.core) (r:=i.core) _ (by decide) rfl rfl,Zhd l (by omega) i.core h1 (by omega),Option.bind_some,e1,
  Y0,if_pos (by decide),YA (sh:=[.int .i64]) (cs:=Wf i.op) (r:=i.op) _ (by decide) rfl rfl,Zhd _ (by rw [List.length_append,KE];omega) i.op (by omega) (by omega),Option.bind_some,e2,
  Y0,if_pos (by decide),YA (sh:=[.int .i64]) (cs:=Wf i.part) (r:=i.part) _ (by decide) rfl rfl,Zhd _ (by rw [List.length_append,List.length_append,KE,KE];omega) i.part (by omega) (by omega),Option.bind_some,e3,
  Y0,if_neg (by decide)]
 simp [idB,List.append_assoc]
def K6 (n:Yi):List Int:=idB n.id++uv n.path.length++(n.path.map idB).flatten++J9 n.cap
def Vw (n:Yi):List Int:=if ZO n=true then K6 n else []
def Zt1 (n:Yi):Int:=if ZO n=true then 0 else 1
theorem ZcF {n:Yi} (h:ZO n=true):K3 n.id=true∧Yr n.cap=true∧n.path.length≤8∧∀ i,i < n.path.length→KO n i=true:=by
 simp only [ZO,Bool.and_eq_true,decide_eq_true_eq,List.all_eq_true,List.mem_range] at h
 exact ⟨h.1.1.1,h.1.1.2,h.1.2,h.2⟩
theorem Zm8 {n:Yi} (h:ZO n=true) (x:Id) (hx:x∈n.path):K3 x=true:=by
 obtain ⟨i,hi⟩:=List.mem_iff_getElem?.1 hx
 have:=(ZcF h).2.2.2 i (List.getElem?_eq_some_iff.1 hi).1
 unfold KO at this
 rw [hi] at this
 simp only [Bool.and_eq_true] at this
 exact this.1.1
theorem ZBG (n:Yi) (hn:ZO n=true):∀ (j i fuel:Nat) (acc:List Int),n.path.length=i+j→j < fuel→acc.length≤1000+33*i→
  ZiU fuel n.id.core n.id.op n.id.part (Zc n.path) n.cap.kind n.cap.base n.cap.bits n.cap.rights n.cap.width n.cap.level n.cap.device (Zd acc) (Zc n.path) (n.path.length:Int) i =
   some (Zd (acc++((n.path.drop i).map idB).flatten++J9 n.cap),0):=by
 obtain ⟨h1,h2,h3,h4⟩:=ZcF hn
 intro j
 induction j with
 | zero =>
  intro i fuel acc h hf ha
  obtain ⟨f,rfl⟩:∃ f,fuel=f+1:=⟨fuel-1,by omega⟩
  have hb:Zi4 ⟨n.cap.kind,n.cap.base,n.cap.bits,n.cap.rights,n.cap.width,n.cap.level,n.cap.device⟩=J9 n.cap:=by
   show Zi4 n.cap=_
   unfold Zi4
   rw [if_pos h2]
  rw [Zg9,if_neg (by simp only [CQ];omega),ZA6,Option.bind_some,hb,Zl (room1 (by rw [JY];omega) (by rw [JY];simp [J9])),List.drop_of_length_le (by omega)]
  simp [ZgK]
 | succ j ih =>
  intro i fuel acc h hf ha
  obtain ⟨f,rfl⟩:∃ f,fuel=f+1:=⟨fuel-1,by omega⟩
  have hi:i < n.path.length:=by omega
  have hat:n.path[(i:Int).toNat]? = some n.path[i]:=by simp
  have a4:iop .add .i64 i 1=((i+1:Nat):Int):=by rw [J8 (by omega) (by omega)];omega
  have hx:=Zm8 hn n.path[i] (List.getElem_mem hi)
  have hle:=Vr n.path[i]
  rw [Zg9,if_pos (by simp only [CQ];omega),VH _ (by omega) hat,ZAL acc (by omega) _ hx,Option.bind_some,a4,ih (i+1) f _ (by omega) (by omega) (by rw [List.length_append];omega),List.drop_eq_getElem_cons hi]
  simp only [List.map_cons,List.flatten_cons,List.append_assoc]
theorem ZCa (n:Yi) (hl:n.path.length < 2^63):ZzD n.id.core n.id.op n.id.part (Zc n.path) n.cap.kind n.cap.base n.cap.bits n.cap.rights n.cap.width n.cap.level n.cap.device=some (Zd (Vw n),Zt1 n):=by
 rw [Zsl,s95 n hl,Option.bind_some]
 unfold Vw Zt1
 cases hn:ZO n with
 | false => rfl
 | true =>
  obtain ⟨h1,h2,h3,h4⟩:=ZcF hn
  have hle:=Vr n.id
  have hu:=ZaA n.path.length
  have e0:E0=Zd []:=rfl
  rw [if_neg (by simp),e0,ZAL [] (by simp) n.id h1,Option.bind_some,List.nil_append,ZY,Zhd _ (by omega) _ (by omega) (by omega),Option.bind_some,Int.toNat_natCast,if_pos rfl,if_pos rfl]
  have:=ZBG n hn n.path.length 0 ZE (idB n.id++uv n.path.length) (by omega) (Vk (by omega)) (by rw [List.length_append,KE];omega)
  refine this.trans ?_
  rfl
end Go.Proofs.YtjldbnbdcmfbmaaGreat
end

section
namespace Go.Proofs.YtjldbnbdcmfbmaaGreat
open Go Go.AM
set_option linter.unusedSimpArgs false
set_option linter.unusedVariables false
set_option maxRecDepth 100000
theorem ZjJ:∀ (k r:Nat),r < 128^k→cnt (k+1) r=cnt k r
 | 0, r, h => by
  have:r=0:=by simpa using h
  subst this
  rfl
 | k + 1, r, h => by
  have e:∀ (m r:Nat),cnt (m+1) r=if r=0 then 0 else 1+cnt m (r / 128):=fun _ _=>rfl
  rw [e (k+1) r,e k r]
  by_cases h0:r=0
  ·rw [if_pos h0,if_pos h0]
  ·have hd:r / 128 < 128^k:=by
    rw [Nat.pow_succ] at h
    exact Nat.div_lt_of_lt_mul (by omega)
   rw [if_neg h0,if_neg h0,ZjJ k _ hd]
theorem ZeF {v:Nat} (hv:v < 2^64):uv v=if v < 128 then [(v:Int)] else ((v % 128+128:Nat):Int)::uv (v / 128):=by
 have h64:(2:Nat)^64=18446744073709551616:=by decide
 by_cases h:v < 128
 ·rw [if_pos h]
  have h0:v / 128=0:=by omega
  have hn:uvN v=1:=by rw [uvN,h0];rfl
  have hm:v % 128=v:=by omega
  rw [uv,hn,uvm,hm]
 ·rw [if_neg h]
  have h0:v / 128≠0:=by omega
  have hf:cnt 10 (v / 128 / 128)=cnt 9 (v / 128 / 128):=ZjJ 9 _ (by
   have:(128:Nat)^9=9223372036854775808:=by decide
   omega)
  have hn:uvN v=uvN (v / 128)+1:=by rw [uvN,uvN,hf,cnt,if_neg h0];omega
  have hn':uvN v=(cnt 10 (v / 128 / 128))+2:=by rw [hn,uvN];omega
  rw [uv,hn',uvm,uv,uvN]
  rw [show 1+cnt 10 (v / 128 / 128)=cnt 10 (v / 128 / 128)+1 by omega]
theorem ZfD {v:Nat} (hv:v < 2^64):uvN v=if v < 128 then 1 else uvN (v / 128)+1:=by
 rw [← KE,ZeF hv]
 split
 ·rfl
 ·rw [List.length_cons,KE]
end Go.Proofs.YtjldbnbdcmfbmaaGreat
end

section
namespace Go.Proofs.YtjldbnbdcmfbmaaGreat
open Go Go.AM
set_option linter.unusedSimpArgs false
set_option linter.unusedVariables false
set_option maxRecDepth 100000
theorem Zny (z:Int):0≤IntKind.u64.wrap z∧IntKind.u64.wrap z < 2^64:=by
 have hs:IntKind.u64.signed=false:=rfl
 have hb:IntKind.u64.bits=64:=rfl
 have h64:(2:Int)^64=18446744073709551616:=by decide
 simp only [IntKind.wrap,hs,hb,Bool.false_and,if_false,Bool.false_eq_true,h64]
 omega
theorem ZlB (a b:Int):iop .xor .u64 a b=(((BitVec.ofInt 64 a ^^^ BitVec.ofInt 64 b).toNat:Nat):Int):=by
 have h:=(BitVec.ofInt 64 a ^^^ BitVec.ofInt 64 b).isLt
 show IntKind.u64.wrap (((BitVec.ofInt 64 a ^^^ BitVec.ofInt 64 b).toNat:Nat):Int)=_
 exact Ys (by omega) (by have:(2:Int)^64=((2^64:Nat):Int):=(by decide);omega)
theorem Zlc (a b:Int):iop .xor .u64 a b=iop .xor .u64 b a:=by rw [ZlB,ZlB,BitVec.xor_comm]
theorem Zk8 {a:Int} (h0:0≤a) (h1:a < 2^64):iop .xor .u64 a 0=a:=by
 have h64:(2:Int)^64=18446744073709551616:=by decide
 have e:BitVec.ofInt 64 (0:Int)=0#64:=rfl
 rw [ZlB,e,BitVec.xor_zero,BitVec.toNat_ofInt]
 omega
def sgV (z:Int):Int:=if z < 0 then iop .xor .u64 18446744073709551615 (iop .shl .u64 (IntKind.wrap .u64 z) 1) else iop .shl .u64 (IntKind.wrap .u64 z) 1
theorem ZiH (z:Int):0≤iop .shl .u64 (IntKind.wrap .u64 z) 1∧iop .shl .u64 (IntKind.wrap .u64 z) 1 < 2^64:=Zny _
theorem ZhT (z:Int):0≤sgV z∧sgV z < 2^64:=by
 unfold sgV
 split
 ·rw [ZlB]
  have h:=(BitVec.ofInt 64 18446744073709551615 ^^^ BitVec.ofInt 64 (iop .shl .u64 (IntKind.wrap .u64 z) 1)).isLt
  have:(2:Int)^64=((2^64:Nat):Int):=by decide
  omega
 ·exact ZiH z
theorem ZsH {z:Int} (h0 : -(2^63:Int)≤z) (h1:z < 2^63):iop .xor .u64 (iop .shl .u64 (IntKind.wrap .u64 z) 1) (IntKind.wrap .u64 (iop .shr .i64 z 63))=sgV z:=by
 have h63:(2:Int)^63=9223372036854775808:=by decide
 have e:iop .shr .i64 z 63=z / 2^63:=ZkA (n:=63) (by decide)
 rw [e]
 unfold sgV
 by_cases hz:z < 0
 ·have e2:z / 2^63 = -1:=by omega
  have e3:IntKind.u64.wrap (-1)=18446744073709551615:=by decide
  rw [e2,e3,if_pos hz,Zlc]
 ·have e2:z / 2^63=0:=by omega
  have e3:IntKind.u64.wrap 0=0:=by decide
  rw [e2,e3,if_neg hz,Zk8 (ZiH z).1 (ZiH z).2]
def sgB (z:Int):List Int:=uv (sgV z).toNat
theorem ZA8 (l:List Int) (hl:l.length≤80000000000) {z:Int} (h0 : -(2^63:Int)≤z) (h1:z < 2^63):Zyu (Zd l) z=some (Zd (l++sgB z)):=by
 have hr:=ZhT z
 have h64:(2:Int)^64=((2^64:Nat):Int):=by decide
 have e:sgV z=(((sgV z).toNat:Nat):Int):=by omega
 rw [Zre,Zl (by decide),Zl (by decide),ZsH h0 h1,e,ZAJ l (by omega) _ (by omega),Option.bind_some]
 rfl
theorem ZaE {α:Type} {F:Nat→List (List AV)→Int→Option (List (List AV))} {l:List α} (c:α→List Int) (b lim:Nat) (hn:l.length < 2^63) (hB:∀ x∈l,(c x).length≤b)
  (step:∀ (k i:Nat) (acc:List Int) (hi:i < l.length),acc.length≤lim→F (k+1) (Zd acc) (i:Int)=F k (Zd (acc++c l[i])) ((i+1:Nat):Int))
  (last:∀ (k i:Nat) (acc:List Int),l.length≤i→F (k+1) (Zd acc) (i:Int)=some (Zd acc)) (acc:List Int) (ha:acc.length+b*l.length≤lim) :
  F ZE (Zd acc) 0=some (Zd (acc++(l.map c).flatten)):=by
 have key:∀ (j i fuel:Nat) (acc:List Int),l.length≤i+j→j < fuel→acc.length+b*(l.length-i)≤lim→F fuel (Zd acc) (i:Int)=some (Zd (acc++((l.drop i).map c).flatten)):=by
  intro j
  induction j with
  | zero =>
   intro i fuel acc h hf _
   obtain ⟨f,rfl⟩:∃ f,fuel=f+1:=⟨fuel-1,by omega⟩
   rw [last f i acc (by omega),List.drop_of_length_le (by omega)]
   simp
  | succ j ih =>
   intro i fuel acc h hf hb
   obtain ⟨f,rfl⟩:∃ f,fuel=f+1:=⟨fuel-1,by omega⟩
   by_cases hi:i < l.length
   ·have hx:=hB _ (List.getElem_mem hi)
    have hm:b*(l.length-i)=b+b*(l.length-(i+1)):=by
     rw [show l.length-i=(l.length-(i+1))+1 by omega,Nat.mul_add,Nat.mul_one,Nat.add_comm]
    rw [step f i acc hi (by omega),ih (i+1) f (acc++c l[i]) (by omega) (by omega) (by rw [List.length_append];omega),List.drop_eq_getElem_cons hi,List.map_cons,List.flatten_cons,List.append_assoc]
   ·rw [last f i acc (by omega),List.drop_of_length_le (by omega)]
    simp
 have:=key l.length 0 ZE acc (by omega) (by have:=Wv hn;omega) (by simpa using ha)
 simpa using this
theorem Zqw (v:Nat):(uv v).length≤11:=by rw [KE];exact ZaA v
def nB (z:Int):List Int:=uv z.toNat
theorem Jn (z:Int):(nB z).length≤11:=Zqw _
theorem s38 (l:List Int) (hl:l.length≤80000000000) {z:Int} (h0:0≤z) (h1:z < 2^63):g38 (Zd l) z=some (Zd (l++nB z)):=by
 rw [Zus,Zhd l (by omega) z h0 h1];rfl
structure Id.Small (i:Id):Prop where
 c0:0≤i.core
 c1:i.core < 2^40
 o0:0≤i.op
 o1:i.op < 2^40
 p0:0≤i.part
 p1:i.part < 2^40
theorem Zg0 {i:Id} (h:K3 i=true):i.Small:=by
 obtain ⟨h1,h2,h3,h4,h5,h6⟩:=ZiM h
 have:(2:Int)^40=1099511627776:=by decide
 exact ⟨h1,by omega,by omega,by omega,h5,by omega⟩
theorem Zfq:zid.Small:=⟨by decide,by decide,by decide,by decide,by decide,by decide⟩
theorem ZvH (l:List Int) (hl:l.length≤80000000000) {i:Id} (hi:i.Small):Zr8 (Zd l) i.core i.op i.part=some (Zd (l++idB i)):=by
 obtain ⟨h1,h2,h3,h4,h5,h6⟩:=hi
 obtain ⟨f,hf⟩:=Zov
 have h63:(2:Int)^63=9223372036854775808:=by decide
 have h40:(2:Int)^40=1099511627776:=by decide
 have u1:=ZaA i.core.toNat
 have u2:=ZaA i.op.toNat
 have e:(((E0++[[AV.val (.int .i64 i.core)]])++[[AV.val (.int .i64 i.op)]])++[[AV.val (.int .i64 i.part)]]) = [Wf i.core,Wf i.op,Wf i.part]:=rfl
 have e1:iop .add .i64 0 1=1:=by decide
 have e2:iop .add .i64 1 1=2:=by decide
 have e3:iop .add .i64 2 1=3:=by decide
 have hlen:(([Wf i.core,Wf i.op,Wf i.part] : List (List AV)).length:Int)=3:=rfl
 rw [Zr9,ZmU,e,hf,hlen]
 rw [Y0,if_pos (by decide),YA (sh:=[.int .i64]) (cs:=Wf i.core) (r:=i.core) _ (by decide) rfl rfl,Zhd l (by omega) i.core h1 (by omega),Option.bind_some,e1,
  Y0,if_pos (by decide),YA (sh:=[.int .i64]) (cs:=Wf i.op) (r:=i.op) _ (by decide) rfl rfl,Zhd _ (by rw [List.length_append,KE];omega) i.op (by omega) (by omega),Option.bind_some,e2,
  Y0,if_pos (by decide),YA (sh:=[.int .i64]) (cs:=Wf i.part) (r:=i.part) _ (by decide) rfl rfl,Zhd _ (by rw [List.length_append,List.length_append,KE,KE];omega) i.part (by omega) (by omega),Option.bind_some,e3,
  Y0,if_neg (by decide),Option.bind_some]
 simp [idB,List.append_assoc]
end Go.Proofs.YtjldbnbdcmfbmaaGreat
end

section
namespace Go.Proofs.YtjldbnbdcmfbmaaGreat
open Go Go.AM
set_option linter.unusedSimpArgs false
set_option linter.unusedVariables false
set_option maxRecDepth 100000
def Zmu (c:Call):List Int:=((YE c).map sgB).flatten
theorem Zp3 (z:Int):(sgB z).length≤11:=Zqw _
theorem ZbP {α:Type} (c:α→List Int) (b:Nat):∀ (l:List α),(∀ x∈l,(c x).length≤b)→((l.map c).flatten).length≤b*l.length
 | [], _ => by simp
 | x :: l, h => by
  have h1:=h x (by simp)
  have h2:=ZbP c b l fun y hy=>h y (by simp [hy])
  rw [List.map_cons,List.flatten_cons,List.length_append,List.length_cons,Nat.mul_add]
  omega
theorem ZjK (c:Call):(Zmu c).length≤132:=ZbP sgB 11 (YE c) fun x _=>Zp3 x
theorem ZBV (l:List Int) (hl:l.length+132≤80000000000) (c:Call) (hc:∀ z∈YE c,Rng z):Zze (Zd l) c.kind c.slot c.dest c.core c.mask c.object c.bits c.level c.offset c.count c.index c.addr=some (Zd (l++Zmu c)):=by
 refine (Zrz ..).trans ?_
 show ZgG ZE (Zd l) (Za (YE c)) ((YE c).length:Int) 0=_
 refine ZaE (F:=fun k a i=>ZgG k a (Za (YE c)) ((YE c).length:Int) i) (l:=YE c) sgB 11 80000000000 (show (YE c).length < 2^63 by show 12 < 2^63;omega) (fun x _=>Zp3 x) (fun k i acc hi ha=>?_) (fun k i acc hi=>?_) l hl
 ·refine (Zgd ..).trans ?_
  have hz:=hc _ (List.getElem_mem hi)
  rw [if_pos (Jg hi)]
  refine (ZT hi _).trans ?_
  rw [ZA8 acc ha hz.1 hz.2,Option.bind_some,Jd hi (show (YE c).length < 2^63 by show 12 < 2^63;omega)]
 ·refine (Zgd ..).trans ?_
  rw [if_neg (Jh hi)]
theorem Zb9 (n:Yi):(Vw n).length≤400:=by
 unfold Vw
 split
 ·rename_i h
  have hp:n.path.length≤8:=by
   simp only [ZO,Bool.and_eq_true,decide_eq_true_eq] at h
   exact h.1.2
  have h1:=Vr n.id
  have h2:=Zqw n.path.length
  have h3:=ZbP idB 33 n.path fun x _=>Vr x
  have h4:(J9 n.cap).length=10:=rfl
  unfold K6
  rw [List.length_append,List.length_append,List.length_append]
  omega
 ·simp
def WX (n:Yi):List Int:=nB ((Vw n).length:Int)++Vw n
theorem VZ (n:Yi):(WX n).length≤411:=by
 have h1:=Zb9 n
 have h2:=Jn ((Vw n).length:Int)
 unfold WX
 rw [List.length_append]
 omega
theorem Zkr (a b:List Int):Zd a++Zd b=Zd (a++b):=by simp [Zd]
theorem Zxh (l:List Int) (hl:l.length≤80000000000) (n:Yi) (hn:n.path.length < 2^63):Zte (Zd l) n.id.core n.id.op n.id.part (Zc n.path) n.cap.kind n.cap.base n.cap.bits n.cap.rights n.cap.width n.cap.level n.cap.device=some (Zd (l++WX n)):=by
 have h1:=Zb9 n
 have h2:=Jn ((Vw n).length:Int)
 rw [ZsK,ZCa n hn,Option.bind_some]
 dsimp only
 rw [JY,s38 l hl (by omega) (by omega),Option.bind_some,Zl (room1 (by rw [JY,List.length_append];omega) (by rw [JY];omega)),Zkr]
 unfold WX
 rw [List.append_assoc]
def Zjt (r:Req):List Int:=idB r.id++Zmu r.call++nB r.region++nB r.width++WX r.src
theorem Zit (r:Req):(Zjt r).length≤598:=by
 have h1:=Vr r.id
 have h2:=ZjK r.call
 have h3:=Jn r.region
 have h4:=Jn r.width
 have h5:=VZ r.src
 unfold Zjt
 rw [List.length_append,List.length_append,List.length_append,List.length_append]
 omega
structure Req.Good (r:Req):Prop where
 id:r.id.Small
 call:∀ z∈YE r.call,Rng z
 reg0:0≤r.region
 reg1:r.region < 2^63
 wid0:0≤r.width
 wid1:r.width < 2^63
 path:r.src.path.length < 2^63
theorem ZAE (l:List Int) (hl:l.length+598≤80000000000) (r:Req) (h:r.Good):Zww (Zd l) r.id.core r.id.op r.id.part r.call.kind r.call.slot r.call.dest r.call.core r.call.mask r.call.object r.call.bits r.call.level r.call.offset r.call.count r.call.index r.call.addr r.region r.width r.src.id.core r.src.id.op r.src.id.part (Zc r.src.path) r.src.cap.kind r.src.cap.base r.src.cap.bits r.src.cap.rights r.src.cap.width r.src.cap.level r.src.cap.device=some (Zd (l++Zjt r)):=by
 have h1:=Vr r.id
 have h2:=ZjK r.call
 have h3:=Jn r.region
 have h4:=Jn r.width
 rw [Zsb,ZvH l (by omega) h.id,Option.bind_some,ZBV _ (by rw [List.length_append];omega) r.call h.call,Option.bind_some,s38 _ (by rw [List.length_append,List.length_append];omega) h.reg0 h.reg1,Option.bind_some,s38 _ (by rw [List.length_append,List.length_append,List.length_append];omega) h.wid0 h.wid1,Option.bind_some,Zxh _ (by rw [List.length_append,List.length_append,List.length_append,List.length_append];omega) r.src h.path,Option.bind_some]
 unfold Zjt
 simp only [List.append_assoc]
def bB (b:Bool):List Int:=if b=true then nB 1 else nB 0
theorem ZAP (l:List Int) (hl:l.length≤80000000000) (b:Bool):Zwt (Zd l) b=some (Zd (l++bB b)):=by
 rw [ZrV]
 cases b with
 | true => rw [if_pos rfl, s38 l hl (by decide) (by decide)]; rfl
 | false => rw [if_neg Bool.false_ne_true, s38 l hl (by decide) (by decide)]; rfl
def ZfL (m:ZfT):List Int:=nB m.region++nB m.to
theorem ZjD (m:ZfT):(ZfL m).length≤22:=by
 have h1:=Jn m.region
 have h2:=Jn m.to
 unfold ZfL
 rw [List.length_append]
 omega
def ZV {α:Type} (c:α→List Int) (xs:List α):List Int:=nB (xs.length:Int)++(xs.map c).flatten
theorem ZCi (l:List Int) (xs:List Yi) (hl:l.length+11+411*xs.length≤79999999978) (hx:xs.length < 2^63) (h:∀ x∈xs,x.path.length < 2^63):ZzQ (Zd l) (xs.map Jx)=some (Zd (l++ZV WX xs)):=by
 have h1:=Jn (xs.length:Int)
 refine (Zsw ..).trans ?_
 rw [List.length_map,s38 l (by omega) (by omega) (by omega),Option.bind_some]
 unfold ZV
 rw [← List.append_assoc]
 refine ZaE (F:=fun k a i=>Zjw k a (xs.map Jx) (xs.length:Int) i) (l:=xs) WX 411 79999999978 hx (fun x _=>VZ x) (fun k i acc hi ha=>?_) (fun k i acc hi=>?_) _ (by rw [List.length_append];omega)
 ·refine (Zgf ..).trans ?_
  have hz:=h _ (List.getElem_mem hi)
  rw [if_pos (Jg hi)]
  refine (Kf hi _).trans ?_
  simp only [Zkq,d2,d4,d8,d16]
  rw [Zxh acc (by omega) _ hz,Option.bind_some,Jd hi hx]
 ·refine (Zgf ..).trans ?_
  rw [if_neg (Jh hi)]
theorem ZAl (l:List Int) (xs:List Id) (hl:l.length+11+33*xs.length≤79999999978) (hx:xs.length < 2^63) (h:∀ x∈xs,x.Small):Zw9 (Zd l) (Zc xs)=some (Zd (l++ZV idB xs)):=by
 have h1:=Jn (xs.length:Int)
 refine (Zq5 ..).trans ?_
 rw [ZY,s38 l (by omega) (by omega) (by omega),Option.bind_some]
 unfold ZV
 rw [← List.append_assoc]
 refine ZaE (F:=fun k a i=>Zjp k a (Zc xs) (xs.length:Int) i) (l:=xs) idB 33 79999999978 hx (fun x _=>Vr x) (fun k i acc hi ha=>?_) (fun k i acc hi=>?_) _ (by rw [List.length_append];omega)
 ·refine (ZgC ..).trans ?_
  have hz:=h _ (List.getElem_mem hi)
  rw [if_pos (Jg hi)]
  refine (Zal hi _).trans ?_
  dsimp only
  rw [ZvH acc (by omega) hz,Option.bind_some,Jd hi hx]
 ·refine (ZgC ..).trans ?_
  rw [if_neg (Jh hi)]
theorem ZxO (l:List Int) (xs:List Int) (hl:l.length+11+11*xs.length≤79999999978) (hx:xs.length < 2^63) (h:∀ x∈xs,0≤x∧x < 2^63):ZvV (Zd l) (Za xs)=some (Zd (l++ZV nB xs)):=by
 have h1:=Jn (xs.length:Int)
 refine (ZsG ..).trans ?_
 rw [ZU,s38 l (by omega) (by omega) (by omega),Option.bind_some]
 unfold ZV
 rw [← List.append_assoc]
 refine ZaE (F:=fun k a i=>ZjW k a (Za xs) (xs.length:Int) i) (l:=xs) nB 11 79999999978 hx (fun x _=>Jn x) (fun k i acc hi ha=>?_) (fun k i acc hi=>?_) _ (by rw [List.length_append];omega)
 ·refine (Zgx ..).trans ?_
  have hz:=h _ (List.getElem_mem hi)
  rw [if_pos (Jg hi)]
  refine (ZT hi _).trans ?_
  rw [s38 acc (by omega) hz.1 hz.2,Option.bind_some,Jd hi hx]
 ·refine (Zgx ..).trans ?_
  rw [if_neg (Jh hi)]
theorem ZCh (l:List Int) (xs:List ZfT) (hl:l.length+11+22*xs.length≤79999999978) (hx:xs.length < 2^63) (h:∀ x∈xs,(0≤x.region∧x.region < 2^63)∧0≤x.to∧x.to < 2^63):Zz2 (Zd l) (xs.map JC)=some (Zd (l++ZV ZfL xs)):=by
 have h1:=Jn (xs.length:Int)
 refine (Zsn ..).trans ?_
 rw [List.length_map,s38 l (by omega) (by omega) (by omega),Option.bind_some]
 unfold ZV
 rw [← List.append_assoc]
 refine ZaE (F:=fun k a i=>Zi0 k a (xs.map JC) (xs.length:Int) i) (l:=xs) ZfL 22 79999999978 hx (fun x _=>ZjD x) (fun k i acc hi ha=>?_) (fun k i acc hi=>?_) _ (by rw [List.length_append];omega)
 ·refine (ZhD ..).trans ?_
  have hz:=h _ (List.getElem_mem hi)
  rw [if_pos (Jg hi)]
  refine (Ki hi _).trans ?_
  dsimp only
  have b1:=Jn xs[i].region
  rw [s38 acc (by omega) hz.1.1 hz.1.2,Option.bind_some,s38 _ (by rw [List.length_append];omega) hz.2.1 hz.2.2,Option.bind_some,Jd hi hx,List.append_assoc]
  rfl
 ·refine (ZhD ..).trans ?_
  rw [if_neg (Jh hi)]
end Go.Proofs.YtjldbnbdcmfbmaaGreat
end

section
namespace Go.Proofs.YtjldbnbdcmfbmaaGreat
open Go Go.AM
set_option linter.unusedSimpArgs false
set_option linter.unusedVariables false
set_option maxRecDepth 100000
theorem Ky {α γ:Type} {F:Nat→List (List AV)→Int→Option γ} {l:List α} (c:α→List Int) (G:List Int→Option γ) (b lim:Nat) (hn:l.length < 2^63) (hB:∀ x∈l,(c x).length≤b)
  (step:∀ (k i:Nat) (acc:List Int) (hi:i < l.length),acc.length≤lim→F (k+1) (Zd acc) (i:Int)=F k (Zd (acc++c l[i])) ((i+1:Nat):Int))
  (last:∀ (k i:Nat) (acc:List Int),l.length≤i→acc.length≤lim→F (k+1) (Zd acc) (i:Int)=G acc) (acc:List Int) (ha:acc.length+b*l.length≤lim) :
  F ZE (Zd acc) 0=G (acc++(l.map c).flatten):=by
 have key:∀ (j i fuel:Nat) (acc:List Int),l.length≤i+j→j < fuel→acc.length+b*(l.length-i)≤lim→F fuel (Zd acc) (i:Int)=G (acc++((l.drop i).map c).flatten):=by
  intro j
  induction j with
  | zero =>
   intro i fuel acc h hf hb
   obtain ⟨f,rfl⟩:∃ f,fuel=f+1:=⟨fuel-1,by omega⟩
   rw [last f i acc (by omega) (by omega),List.drop_of_length_le (by omega)]
   simp
  | succ j ih =>
   intro i fuel acc h hf hb
   obtain ⟨f,rfl⟩:∃ f,fuel=f+1:=⟨fuel-1,by omega⟩
   by_cases hi:i < l.length
   ·have hx:=hB _ (List.getElem_mem hi)
    have hm:b*(l.length-i)=b+b*(l.length-(i+1)):=by
     rw [show l.length-i=(l.length-(i+1))+1 by omega,Nat.mul_add,Nat.mul_one,Nat.add_comm]
    rw [step f i acc hi (by omega),ih (i+1) f (acc++c l[i]) (by omega) (by omega) (by rw [List.length_append];omega),List.drop_eq_getElem_cons hi,List.map_cons,List.flatten_cons,List.append_assoc]
   ·rw [last f i acc (by omega) (by omega),List.drop_of_length_le (by omega)]
    simp
 have:=key l.length 0 ZE acc (by omega) (by have:=Wv hn;omega) (by simpa using ha)
 simpa using this
def Zdx (s:Kc):List Int:=WX s.node++nB s.op++idB s.lock
def ZaP (m:ZcA):List Int:=nB m.region++idB m.op
def ZhH (a:Ans):List Int:=nB a.op++nB a.err
def ZfU (e:Zx):List Int:=nB e.core++nB e.slot++WX e.node
theorem Zjl (s:Kc):(Zdx s).length≤455:=by
 have h1:=VZ s.node
 have h2:=Jn s.op
 have h3:=Vr s.lock
 unfold Zdx
 rw [List.length_append,List.length_append]
 omega
theorem Zi6 (m:ZcA):(ZaP m).length≤44:=by
 have h2:=Jn m.region
 have h3:=Vr m.op
 unfold ZaP
 rw [List.length_append]
 omega
theorem Znv (a:Ans):(ZhH a).length≤22:=by
 have h2:=Jn a.op
 have h3:=Jn a.err
 unfold ZhH
 rw [List.length_append]
 omega
theorem ZlL (e:Zx):(ZfU e).length≤433:=by
 have h1:=VZ e.node
 have h2:=Jn e.core
 have h3:=Jn e.slot
 unfold ZfU
 rw [List.length_append,List.length_append]
 omega
def N63 (z:Int):Prop:=0≤z∧z < 2^63
structure Jv.Good (s:Jv):Prop where
 slots:s.slots.length≤2097152
 pending:s.pending.length≤2097152
 marks:s.marks.length≤2097152
 answers:s.answers.length≤2097152
 entries:s.entries.length≤2097152
 commits:s.commits.length≤2097152
 slot:∀ x∈s.slots,x.node.path.length < 2^63∧N63 x.op∧x.lock.Small
 req:∀ x∈s.pending,x.Good
 mark:∀ x∈s.marks,N63 x.region∧x.op.Small
 ans:∀ x∈s.answers,N63 x.op∧N63 x.err
 entry:∀ x∈s.entries,N63 x.core∧N63 x.slot∧x.node.path.length < 2^63
 commit:∀ x∈s.commits,x.Small
def Wx (s:Jv):List Int:=ZV Zdx s.slots++(ZV Zjt s.pending++(ZV ZaP s.marks++(ZV ZhH s.answers++(ZV ZfU s.entries++ZV idB s.commits))))
theorem J1 {α:Type} (c:α→List Int) (b n:Nat) (l:List α) (h:∀ x∈l,(c x).length≤b) (hn:l.length≤n):(ZV c l).length≤11+b*n:=by
 have h1:=Jn (l.length:Int)
 have h2:=ZbP c b l h
 have h3:b*l.length≤b*n:=Nat.mul_le_mul_left b hn
 unfold ZV
 rw [List.length_append]
 omega
theorem ZaD (s:Jv) (h:s.Good):(Wx s).length≤3400000000:=by
 have h1:=J1 Zdx 455 _ s.slots (fun x _=>Zjl x) h.slots
 have h2:=J1 Zjt 598 _ s.pending (fun x _=>Zit x) h.pending
 have h3:=J1 ZaP 44 _ s.marks (fun x _=>Zi6 x) h.marks
 have h4:=J1 ZhH 22 _ s.answers (fun x _=>Znv x) h.answers
 have h5:=J1 ZfU 433 _ s.entries (fun x _=>ZlL x) h.entries
 have h6:=J1 idB 33 _ s.commits (fun x _=>Vr x) h.commits
 unfold Wx
 rw [List.length_append,List.length_append,List.length_append,List.length_append,List.length_append]
 omega
theorem Zy3 (l:List Int) (hl:l.length≤60000000000) (s:Jv) (h:s.Good):Ztp (Zd l) (s.slots.map Zh) (s.pending.map ZN) (s.marks.map Zm) (s.answers.map ZS) (s.entries.map Ze) (Zc s.commits)=some (Zd (l++Wx s)):=by
 have L0:∀ acc:List Int,acc.length≤70000000000→Zgz ZE (Zd acc) (s.slots.map Zh) (s.pending.map ZN) (s.marks.map Zm) (s.answers.map ZS) (s.entries.map Ze) (Zc s.commits) (s.entries.map Ze) (s.entries.length:Int) 0=some (Zd ((acc++(s.entries.map ZfU).flatten)++(ZV idB s.commits))):=by
  intro acc hacc
  have hln:=h.entries
  have hn:s.entries.length < 2^63:=by omega
  refine Ky (F:=fun k a i=>Zgz k a (s.slots.map Zh) (s.pending.map ZN) (s.marks.map Zm) (s.answers.map ZS) (s.entries.map Ze) (Zc s.commits) (s.entries.map Ze) (s.entries.length:Int) i) (l:=s.entries) ZfU (fun acc=>some (Zd (acc++(ZV idB s.commits)))) 433 71900000000 hn (fun x _=>ZlL x) (fun k i acc hi ha=>?_) (fun k i acc hi ha=>?_) acc (by omega)
  ·refine (Zhr ..).trans ?_
   have hz:=h.entry _ (List.getElem_mem hi)
   have b1:=Jn s.entries[i].core
   have b2:=Jn s.entries[i].slot
   rw [if_pos (Jg hi)]
   refine (Zo hi _).trans ?_
   try simp only [Zo hi,Yg,d2,d4,d8,d16]
   rw [s38 acc (by omega) hz.1.1 hz.1.2,Option.bind_some,s38 _ (by rw [List.length_append];omega) hz.2.1.1 hz.2.1.2,Option.bind_some,Zxh _ (by rw [List.length_append,List.length_append];omega) _ hz.2.2,Option.bind_some,Jd hi hn]
   try simp only [ZfU,List.append_assoc]
  ·refine (Zhr ..).trans ?_
   rw [if_neg (Jh hi)]
   rw [ZAl acc s.commits (by have:=h.commits;omega) (by have:=h.commits;omega) h.commit]
   rfl
 have L1:∀ acc:List Int,acc.length≤68000000000→Zhe ZE (Zd acc) (s.slots.map Zh) (s.pending.map ZN) (s.marks.map Zm) (s.answers.map ZS) (s.entries.map Ze) (Zc s.commits) (s.answers.map ZS) (s.answers.length:Int) 0=some (Zd ((acc++(s.answers.map ZhH).flatten)++(ZV ZfU s.entries++(ZV idB s.commits)))):=by
  intro acc hacc
  have hln:=h.answers
  have hn:s.answers.length < 2^63:=by omega
  refine Ky (F:=fun k a i=>Zhe k a (s.slots.map Zh) (s.pending.map ZN) (s.marks.map Zm) (s.answers.map ZS) (s.entries.map Ze) (Zc s.commits) (s.answers.map ZS) (s.answers.length:Int) i) (l:=s.answers) ZhH (fun acc=>some (Zd (acc++(ZV ZfU s.entries++(ZV idB s.commits))))) 22 69900000000 hn (fun x _=>Znv x) (fun k i acc hi ha=>?_) (fun k i acc hi ha=>?_) acc (by omega)
  ·refine (Zgw ..).trans ?_
   have hz:=h.ans _ (List.getElem_mem hi)
   have b1:=Jn s.answers[i].op
   rw [if_pos (Jg hi)]
   refine (YC hi _).trans ?_
   try simp only [YC hi,d2,d4,d8,d16]
   rw [s38 acc (by omega) hz.1.1 hz.1.2,Option.bind_some,s38 _ (by rw [List.length_append];omega) hz.2.1 hz.2.2,Option.bind_some,Jd hi hn]
   try simp only [ZhH,List.append_assoc]
  ·refine (Zgw ..).trans ?_
   rw [if_neg (Jh hi)]
   have b1:=Jn (s.entries.length:Int)
   have b2:=h.entries
   rw [List.length_map,s38 acc (by omega) (by omega) (by omega),Option.bind_some,L0 _ (by rw [List.length_append];omega)]
   simp only [ZV,List.append_assoc]
 have L2:∀ acc:List Int,acc.length≤66000000000→ZgE ZE (Zd acc) (s.slots.map Zh) (s.pending.map ZN) (s.marks.map Zm) (s.answers.map ZS) (s.entries.map Ze) (Zc s.commits) (s.marks.map Zm) (s.marks.length:Int) 0=some (Zd ((acc++(s.marks.map ZaP).flatten)++(ZV ZhH s.answers++(ZV ZfU s.entries++(ZV idB s.commits))))):=by
  intro acc hacc
  have hln:=h.marks
  have hn:s.marks.length < 2^63:=by omega
  refine Ky (F:=fun k a i=>ZgE k a (s.slots.map Zh) (s.pending.map ZN) (s.marks.map Zm) (s.answers.map ZS) (s.entries.map Ze) (Zc s.commits) (s.marks.map Zm) (s.marks.length:Int) i) (l:=s.marks) ZaP (fun acc=>some (Zd (acc++(ZV ZhH s.answers++(ZV ZfU s.entries++(ZV idB s.commits)))))) 44 67900000000 hn (fun x _=>Zi6 x) (fun k i acc hi ha=>?_) (fun k i acc hi ha=>?_) acc (by omega)
  ·refine (Zgb ..).trans ?_
   have hz:=h.mark _ (List.getElem_mem hi)
   have b1:=Jn s.marks[i].region
   rw [if_pos (Jg hi)]
   refine (J6 hi _).trans ?_
   try simp only [J6 hi,d2,d4,d8,d16]
   rw [s38 acc (by omega) hz.1.1 hz.1.2,Option.bind_some,ZvH _ (by rw [List.length_append];omega) hz.2,Option.bind_some,Jd hi hn]
   try simp only [ZaP,List.append_assoc]
  ·refine (Zgb ..).trans ?_
   rw [if_neg (Jh hi)]
   have b1:=Jn (s.answers.length:Int)
   have b2:=h.answers
   rw [List.length_map,s38 acc (by omega) (by omega) (by omega),Option.bind_some,L1 _ (by rw [List.length_append];omega)]
   simp only [ZV,List.append_assoc]
 have L3:∀ acc:List Int,acc.length≤64000000000→ZgA ZE (Zd acc) (s.slots.map Zh) (s.pending.map ZN) (s.marks.map Zm) (s.answers.map ZS) (s.entries.map Ze) (Zc s.commits) (s.pending.map ZN) (s.pending.length:Int) 0=some (Zd ((acc++(s.pending.map Zjt).flatten)++(ZV ZaP s.marks++(ZV ZhH s.answers++(ZV ZfU s.entries++(ZV idB s.commits)))))):=by
  intro acc hacc
  have hln:=h.pending
  have hn:s.pending.length < 2^63:=by omega
  refine Ky (F:=fun k a i=>ZgA k a (s.slots.map Zh) (s.pending.map ZN) (s.marks.map Zm) (s.answers.map ZS) (s.entries.map Ze) (Zc s.commits) (s.pending.map ZN) (s.pending.length:Int) i) (l:=s.pending) Zjt (fun acc=>some (Zd (acc++(ZV ZaP s.marks++(ZV ZhH s.answers++(ZV ZfU s.entries++(ZV idB s.commits))))))) 598 65900000000 hn (fun x _=>Zit x) (fun k i acc hi ha=>?_) (fun k i acc hi ha=>?_) acc (by omega)
  ·refine (ZhA ..).trans ?_
   have hz:=h.req _ (List.getElem_mem hi)
   skip
   rw [if_pos (Jg hi)]
   refine (Yf hi _).trans ?_
   try simp only [Yf hi,Ztl,d2,d4,d8,d16]
   rw [ZAE acc (by omega) _ hz,Option.bind_some,Jd hi hn]
   try simp only [List.append_assoc]
  ·refine (ZhA ..).trans ?_
   rw [if_neg (Jh hi)]
   have b1:=Jn (s.marks.length:Int)
   have b2:=h.marks
   rw [List.length_map,s38 acc (by omega) (by omega) (by omega),Option.bind_some,L2 _ (by rw [List.length_append];omega)]
   simp only [ZV,List.append_assoc]
 have L4:∀ acc:List Int,acc.length≤62000000000→Zgv ZE (Zd acc) (s.slots.map Zh) (s.pending.map ZN) (s.marks.map Zm) (s.answers.map ZS) (s.entries.map Ze) (Zc s.commits) (s.slots.map Zh) (s.slots.length:Int) 0=some (Zd ((acc++(s.slots.map Zdx).flatten)++(ZV Zjt s.pending++(ZV ZaP s.marks++(ZV ZhH s.answers++(ZV ZfU s.entries++(ZV idB s.commits))))))):=by
  intro acc hacc
  have hln:=h.slots
  have hn:s.slots.length < 2^63:=by omega
  refine Ky (F:=fun k a i=>Zgv k a (s.slots.map Zh) (s.pending.map ZN) (s.marks.map Zm) (s.answers.map ZS) (s.entries.map Ze) (Zc s.commits) (s.slots.map Zh) (s.slots.length:Int) i) (l:=s.slots) Zdx (fun acc=>some (Zd (acc++(ZV Zjt s.pending++(ZV ZaP s.marks++(ZV ZhH s.answers++(ZV ZfU s.entries++(ZV idB s.commits)))))))) 455 63900000000 hn (fun x _=>Zjl x) (fun k i acc hi ha=>?_) (fun k i acc hi ha=>?_) acc (by omega)
  ·refine (Zgl ..).trans ?_
   have hz:=h.slot _ (List.getElem_mem hi)
   have b1:=VZ s.slots[i].node
   have b2:=Jn s.slots[i].op
   rw [if_pos (Jg hi)]
   refine (JZ hi _).trans ?_
   try simp only [JZ hi,ZkR,d2,d4,d8,d16]
   rw [Zxh acc (by omega) _ hz.1,Option.bind_some,s38 _ (by rw [List.length_append];omega) hz.2.1.1 hz.2.1.2,Option.bind_some,ZvH _ (by rw [List.length_append,List.length_append];omega) hz.2.2,Option.bind_some,Jd hi hn]
   try simp only [Zdx,List.append_assoc]
  ·refine (Zgl ..).trans ?_
   rw [if_neg (Jh hi)]
   have b1:=Jn (s.pending.length:Int)
   have b2:=h.pending
   rw [List.length_map,s38 acc (by omega) (by omega) (by omega),Option.bind_some,L3 _ (by rw [List.length_append];omega)]
   simp only [ZV,List.append_assoc]
 have hln:=h.slots
 have b1:=Jn (s.slots.length:Int)
 refine (Zql ..).trans ?_
 rw [List.length_map,s38 l (by omega) (by omega) (by omega),Option.bind_some,L4 _ (by rw [List.length_append];omega)]
 simp only [Wx,ZV,List.append_assoc]
structure VV.Good (v:VV):Prop where
 num:N63 v.number
 members:v.members.length≤2097152
 owners:v.owners.length≤2097152
 member:∀ x∈v.members,0≤x∧x < 2^63
 owner:∀ x∈v.owners,0≤x∧x < 2^63
def ZdC (v:VV):List Int:=nB v.number++(ZV nB v.members++ZV nB v.owners)
theorem WU (v:VV) (h:v.Good):(ZdC v).length≤50000000:=by
 have h1:=Jn v.number
 have h2:=J1 nB 11 _ v.members (fun x _=>Jn x) h.members
 have h3:=J1 nB 11 _ v.owners (fun x _=>Jn x) h.owners
 unfold ZdC
 rw [List.length_append,List.length_append]
 omega
theorem Zym (l:List Int) (hl:l.length≤70000000000) (v:VV) (h:v.Good):Ztq (Zd l) v.number (Za v.members) (Za v.owners)=some (Zd (l++ZdC v)):=by
 have h1:=Jn v.number
 have h2:=J1 nB 11 _ v.members (fun x _=>Jn x) h.members
 have h3:=h.members
 have h4:=h.owners
 rw [ZrR,s38 l (by omega) h.num.1 h.num.2,Option.bind_some,ZxO _ _ (by rw [List.length_append];omega) (by omega) h.member,Option.bind_some,ZxO _ _ (by rw [List.length_append,List.length_append];omega) (by omega) h.owner,Option.bind_some]
 simp only [ZdC,List.append_assoc]
structure Jm.Good (r:Jm):Prop where
 core:N63 r.core
 view:r.view.Good
 state:r.state.Good
 next:r.next.Good
 proposal:r.proposal.Good
def ZpY (r:Jm):List Int:=nB r.core++(ZdC r.view++(Wx r.state++(bB r.ready++(ZdC r.next++Wx r.proposal))))
theorem ZrJ (b:Bool):(bB b).length≤11:=by
 unfold bB
 split
 ·exact Jn 1
 ·exact Jn 0
theorem Zqx (r:Jm) (h:r.Good):(ZpY r).length≤7000000000:=by
 have h1:=Jn r.core
 have h2:=WU _ h.view
 have h3:=ZaD _ h.state
 have h4:=ZrJ r.ready
 have h5:=WU _ h.next
 have h6:=ZaD _ h.proposal
 unfold ZpY
 rw [List.length_append,List.length_append,List.length_append,List.length_append,List.length_append]
 omega
theorem ZAW (l:List Int) (hl:l.length≤50000000000) (r:Jm) (h:r.Good):Zy6 (Zd l) r.core r.view.number (Za r.view.members) (Za r.view.owners) (r.state.slots.map Zh) (r.state.pending.map ZN) (r.state.marks.map Zm) (r.state.answers.map ZS) (r.state.entries.map Ze) (Zc r.state.commits) r.ready r.next.number (Za r.next.members) (Za r.next.owners) (r.proposal.slots.map Zh) (r.proposal.pending.map ZN) (r.proposal.marks.map Zm) (r.proposal.answers.map ZS) (r.proposal.entries.map Ze) (Zc r.proposal.commits)=some (Zd (l++ZpY r)):=by
 have h1:=Jn r.core
 have h2:=WU _ h.view
 have h3:=ZaD _ h.state
 have h4:=ZrJ r.ready
 have h5:=WU _ h.next
 rw [Zru,s38 l (by omega) h.core.1 h.core.2,Option.bind_some,Zym _ (by rw [List.length_append];omega) _ h.view,Option.bind_some,Zy3 _ (by rw [List.length_append,List.length_append];omega) _ h.state,Option.bind_some,ZAP _ (by rw [List.length_append,List.length_append,List.length_append];omega),Option.bind_some,Zym _ (by rw [List.length_append,List.length_append,List.length_append,List.length_append];omega) _ h.next,Option.bind_some,Zy3 _ (by rw [List.length_append,List.length_append,List.length_append,List.length_append,List.length_append];omega) _ h.proposal,Option.bind_some]
 simp only [ZpY,List.append_assoc]
end Go.Proofs.YtjldbnbdcmfbmaaGreat
end

section
namespace Go.Proofs.YtjldbnbdcmfbmaaGreat
open Go Go.AM
set_option linter.unusedSimpArgs false
set_option linter.unusedVariables false
set_option maxRecDepth 100000
structure Msg.Good (m:Msg):Prop where
 kind:N63 m.kind
 view:N63 m.view
 frm:N63 m.frm
 to:N63 m.to
 round:N63 m.round
 region:N63 m.region
 slot:N63 m.slot
 op:m.op.Small
 err:N63 m.err
 req:m.req.Good
 idsn:m.ids.length≤2097152
 ids:∀ x∈m.ids,x.Small
 nodesn:m.nodes.length≤2097152
 nodes:∀ x∈m.nodes,x.path.length < 2^63
 coresn:m.cores.length≤2097152
 cores:∀ x∈m.cores,0≤x∧x < 2^63
 movesn:m.moves.length≤2097152
 moves:∀ x∈m.moves,(0≤x.region∧x.region < 2^63)∧0≤x.to∧x.to < 2^63
 base:N63 m.base
 next:m.next.Good
 state:m.state.Good
 report:m.report.Good
def KZ (m:Msg):Nat→List Int
 | 0 => nB m.region
 | 1 => Zjt m.req
 | 2 => idB m.op
 | 3 => nB m.err
 | 4 => bB m.settled
 | 5 => ZV WX m.nodes
 | 6 => nB m.slot
 | 7 => ZV idB m.ids
 | 8 => nB m.round
 | 9 => ZV nB m.cores
 | 10 => ZpY m.report
 | 11 => nB m.base
 | 12 => ZdC m.next
 | 13 => Wx m.state
 | 14 => ZV ZfL m.moves
 | _ => []
theorem ZmM (m:Msg) (h:m.Good) (f:Nat):(KZ m f).length≤7000000000:=by
 have b5:=J1 WX 411 _ m.nodes (fun x _=>VZ x) h.nodesn
 have b7:=J1 idB 33 _ m.ids (fun x _=>Vr x) h.idsn
 have b9:=J1 nB 11 _ m.cores (fun x _=>Jn x) h.coresn
 have b14:=J1 ZfL 22 _ m.moves (fun x _=>ZjD x) h.movesn
 have b10:=Zqx _ h.report
 have b12:=WU _ h.next
 have b13:=ZaD _ h.state
 have b1:=Zit m.req
 have b2:=Vr m.op
 have b4:=ZrJ m.settled
 have b0:=Jn m.region
 have b3:=Jn m.err
 have b6:=Jn m.slot
 have b8:=Jn m.round
 have b11:=Jn m.base
 unfold KZ
 split<;>first | omega | simp
theorem s39 (m:Msg) (h:m.Good) (l:List Int) (hl:l.length≤50000000000):∀ f:Nat,f < 15→g39 (Zd l) m.kind m.view m.frm m.to m.round m.region m.slot m.op.core m.op.op m.op.part m.err m.settled m.req.id.core m.req.id.op m.req.id.part m.req.call.kind m.req.call.slot m.req.call.dest m.req.call.core m.req.call.mask m.req.call.object m.req.call.bits m.req.call.level m.req.call.offset m.req.call.count m.req.call.index m.req.call.addr m.req.region m.req.width m.req.src.id.core m.req.src.id.op m.req.src.id.part (Zc m.req.src.path) m.req.src.cap.kind m.req.src.cap.base m.req.src.cap.bits m.req.src.cap.rights m.req.src.cap.width m.req.src.cap.level m.req.src.cap.device (Zc m.ids) (m.nodes.map Jx) (Za m.cores) (m.moves.map JC) m.base m.next.number (Za m.next.members) (Za m.next.owners) (m.state.slots.map Zh) (m.state.pending.map ZN) (m.state.marks.map Zm) (m.state.answers.map ZS) (m.state.entries.map Ze) (Zc m.state.commits) m.report.core m.report.view.number (Za m.report.view.members) (Za m.report.view.owners) (m.report.state.slots.map Zh) (m.report.state.pending.map ZN) (m.report.state.marks.map Zm) (m.report.state.answers.map ZS) (m.report.state.entries.map Ze) (Zc m.report.state.commits) m.report.ready m.report.next.number (Za m.report.next.members) (Za m.report.next.owners) (m.report.proposal.slots.map Zh) (m.report.proposal.pending.map ZN) (m.report.proposal.marks.map Zm) (m.report.proposal.answers.map ZS) (m.report.proposal.entries.map Ze) (Zc m.report.proposal.commits) (f:Int)=some (Zd (l++KZ m f))
 | 0, _ => (Kx ..).trans (congrArg (fun x => Option.bind x some) (s38 l (by omega) h.region.1 h.region.2))
 | 1, _ => (Kx ..).trans (congrArg (fun x => Option.bind x some) (ZAE l (by omega) _ h.req))
 | 2, _ => (Kx ..).trans (congrArg (fun x => Option.bind x some) (ZvH l (by omega) h.op))
 | 3, _ => (Kx ..).trans (congrArg (fun x => Option.bind x some) (s38 l (by omega) h.err.1 h.err.2))
 | 4, _ => (Kx ..).trans (congrArg (fun x => Option.bind x some) (ZAP l (by omega) _))
 | 5, _ => (Kx ..).trans (congrArg (fun x => Option.bind x some) (ZCi l _ (by have := h.nodesn; omega) (by have := h.nodesn; omega) h.nodes))
 | 6, _ => (Kx ..).trans (congrArg (fun x => Option.bind x some) (s38 l (by omega) h.slot.1 h.slot.2))
 | 7, _ => (Kx ..).trans (congrArg (fun x => Option.bind x some) (ZAl l _ (by have := h.idsn; omega) (by have := h.idsn; omega) h.ids))
 | 8, _ => (Kx ..).trans (congrArg (fun x => Option.bind x some) (s38 l (by omega) h.round.1 h.round.2))
 | 9, _ => (Kx ..).trans (congrArg (fun x => Option.bind x some) (ZxO l _ (by have := h.coresn; omega) (by have := h.coresn; omega) h.cores))
 | 10, _ => (Kx ..).trans (congrArg (fun x => Option.bind x some) (ZAW l hl _ h.report))
 | 11, _ => (Kx ..).trans (congrArg (fun x => Option.bind x some) (s38 l (by omega) h.base.1 h.base.2))
 | 12, _ => (Kx ..).trans (congrArg (fun x => Option.bind x some) (Zym l (by omega) _ h.next))
 | 13, _ => (Kx ..).trans (congrArg (fun x => Option.bind x some) (Zy3 l (by omega) _ h.state))
 | 14, _ => (Kx ..).trans (congrArg (fun x => Option.bind x some) (ZCh l _ (by have := h.movesn; omega) (by have := h.movesn; omega) h.moves))
def Zrk (m:Msg):List Int:=nB m.kind++(nB m.view++(nB m.frm++nB m.to))
def ZsV (m:Msg):List Int:=Zrk m++((kf m.kind.toNat).map (KZ m)).flatten
theorem Zuj (n:Nat):(kf n).length≤5:=by unfold kf;split<;>simp
theorem ZCc (m:Msg) (h:m.Good) (L:List Nat) (hL:∀ f∈L,f < 15) (hn:L.length≤5) (acc:List Int) (ha:acc.length≤10000000000) :
  Znd ZE m.kind m.view m.frm m.to m.round m.region m.slot m.op.core m.op.op m.op.part m.err m.settled m.req.id.core m.req.id.op m.req.id.part m.req.call.kind m.req.call.slot m.req.call.dest m.req.call.core m.req.call.mask m.req.call.object m.req.call.bits m.req.call.level m.req.call.offset m.req.call.count m.req.call.index m.req.call.addr m.req.region m.req.width m.req.src.id.core m.req.src.id.op m.req.src.id.part (Zc m.req.src.path) m.req.src.cap.kind m.req.src.cap.base m.req.src.cap.bits m.req.src.cap.rights m.req.src.cap.width m.req.src.cap.level m.req.src.cap.device (Zc m.ids) (m.nodes.map Jx) (Za m.cores) (m.moves.map JC) m.base m.next.number (Za m.next.members) (Za m.next.owners) (m.state.slots.map Zh) (m.state.pending.map ZN) (m.state.marks.map Zm) (m.state.answers.map ZS) (m.state.entries.map Ze) (Zc m.state.commits) m.report.core m.report.view.number (Za m.report.view.members) (Za m.report.view.owners) (m.report.state.slots.map Zh) (m.report.state.pending.map ZN) (m.report.state.marks.map Zm) (m.report.state.answers.map ZS) (m.report.state.entries.map Ze) (Zc m.report.state.commits) m.report.ready m.report.next.number (Za m.report.next.members) (Za m.report.next.owners) (m.report.proposal.slots.map Zh) (m.report.proposal.pending.map ZN) (m.report.proposal.marks.map Zm) (m.report.proposal.answers.map ZS) (m.report.proposal.entries.map Ze) (Zc m.report.proposal.commits) (fc L) (L.length:Int) 0 (Zd acc)=some (Zd (acc++(L.map (KZ m)).flatten),0):=by
 refine Ky (F:=fun k a i=>Znd k m.kind m.view m.frm m.to m.round m.region m.slot m.op.core m.op.op m.op.part m.err m.settled m.req.id.core m.req.id.op m.req.id.part m.req.call.kind m.req.call.slot m.req.call.dest m.req.call.core m.req.call.mask m.req.call.object m.req.call.bits m.req.call.level m.req.call.offset m.req.call.count m.req.call.index m.req.call.addr m.req.region m.req.width m.req.src.id.core m.req.src.id.op m.req.src.id.part (Zc m.req.src.path) m.req.src.cap.kind m.req.src.cap.base m.req.src.cap.bits m.req.src.cap.rights m.req.src.cap.width m.req.src.cap.level m.req.src.cap.device (Zc m.ids) (m.nodes.map Jx) (Za m.cores) (m.moves.map JC) m.base m.next.number (Za m.next.members) (Za m.next.owners) (m.state.slots.map Zh) (m.state.pending.map ZN) (m.state.marks.map Zm) (m.state.answers.map ZS) (m.state.entries.map Ze) (Zc m.state.commits) m.report.core m.report.view.number (Za m.report.view.members) (Za m.report.view.owners) (m.report.state.slots.map Zh) (m.report.state.pending.map ZN) (m.report.state.marks.map Zm) (m.report.state.answers.map ZS) (m.report.state.entries.map Ze) (Zc m.report.state.commits) m.report.ready m.report.next.number (Za m.report.next.members) (Za m.report.next.owners) (m.report.proposal.slots.map Zh) (m.report.proposal.pending.map ZN) (m.report.proposal.marks.map Zm) (m.report.proposal.answers.map ZS) (m.report.proposal.entries.map Ze) (Zc m.report.proposal.commits) (fc L) (L.length:Int) i a) (l:=L) (KZ m) (fun acc=>some (Zd acc,0)) 7000000000 50000000000 (by omega) (fun x _=>ZmM m h x) (fun k i acc hi ha=>?_) (fun k i acc hi ha=>?_) acc (by omega)
 ·refine (Zj4 ..).trans ?_
  rw [if_pos (Jg hi)]
  refine (Zng hi _).trans ?_
  rw [s39 m h acc ha _ (hL _ (List.getElem_mem hi)),Option.bind_some,Jd hi (by omega)]
 ·refine (Zj4 ..).trans ?_
  rw [if_neg (Jh hi)]
theorem s14 (m:Msg) (hf:m.Fits) (h:KL m=true→m.Good):g14 m.kind m.view m.frm m.to m.round m.region m.slot m.op.core m.op.op m.op.part m.err m.settled m.req.id.core m.req.id.op m.req.id.part m.req.call.kind m.req.call.slot m.req.call.dest m.req.call.core m.req.call.mask m.req.call.object m.req.call.bits m.req.call.level m.req.call.offset m.req.call.count m.req.call.index m.req.call.addr m.req.region m.req.width m.req.src.id.core m.req.src.id.op m.req.src.id.part (Zc m.req.src.path) m.req.src.cap.kind m.req.src.cap.base m.req.src.cap.bits m.req.src.cap.rights m.req.src.cap.width m.req.src.cap.level m.req.src.cap.device (Zc m.ids) (m.nodes.map Jx) (Za m.cores) (m.moves.map JC) m.base m.next.number (Za m.next.members) (Za m.next.owners) (m.state.slots.map Zh) (m.state.pending.map ZN) (m.state.marks.map Zm) (m.state.answers.map ZS) (m.state.entries.map Ze) (Zc m.state.commits) m.report.core m.report.view.number (Za m.report.view.members) (Za m.report.view.owners) (m.report.state.slots.map Zh) (m.report.state.pending.map ZN) (m.report.state.marks.map Zm) (m.report.state.answers.map ZS) (m.report.state.entries.map Ze) (Zc m.report.state.commits) m.report.ready m.report.next.number (Za m.report.next.members) (Za m.report.next.owners) (m.report.proposal.slots.map Zh) (m.report.proposal.pending.map ZN) (m.report.proposal.marks.map Zm) (m.report.proposal.answers.map ZS) (m.report.proposal.entries.map Ze) (Zc m.report.proposal.commits)=some (if KL m=true then (Zd (ZsV m),0) else (E0,1)):=by
 rw [Zt6,s12 m hf,Option.bind_some]
 cases hv:KL m with
 | false => rfl
 | true =>
  have hg:=h hv
  rw [if_neg (by simp),if_pos rfl]
  have hk:1≤m.kind∧m.kind≤17:=by
   unfold KL headOk kindOk at hv
   simp only [Bool.and_eq_true,decide_eq_true_eq] at hv
   exact hv.1.1.1.1
  obtain ⟨n,hn⟩:∃ n:Nat,m.kind=n:=⟨m.kind.toNat,by omega⟩
  have e19:g32 m.kind=some (fc (kf n),true):=by rw [hn];exact s32 n (by omega) (by omega)
  have hk2:m.kind.toNat=n:=by omega
  have hlen:(fc (kf n)).length=(kf n).length:=List.length_map _
  have e:=Ky (F:=fun k a i=>Zoj k m.kind m.view m.frm m.to m.round m.region m.slot m.op.core m.op.op m.op.part m.err m.settled m.req.id.core m.req.id.op m.req.id.part m.req.call.kind m.req.call.slot m.req.call.dest m.req.call.core m.req.call.mask m.req.call.object m.req.call.bits m.req.call.level m.req.call.offset m.req.call.count m.req.call.index m.req.call.addr m.req.region m.req.width m.req.src.id.core m.req.src.id.op m.req.src.id.part (Zc m.req.src.path) m.req.src.cap.kind m.req.src.cap.base m.req.src.cap.bits m.req.src.cap.rights m.req.src.cap.width m.req.src.cap.level m.req.src.cap.device (Zc m.ids) (m.nodes.map Jx) (Za m.cores) (m.moves.map JC) m.base m.next.number (Za m.next.members) (Za m.next.owners) (m.state.slots.map Zh) (m.state.pending.map ZN) (m.state.marks.map Zm) (m.state.answers.map ZS) (m.state.entries.map Ze) (Zc m.state.commits) m.report.core m.report.view.number (Za m.report.view.members) (Za m.report.view.owners) (m.report.state.slots.map Zh) (m.report.state.pending.map ZN) (m.report.state.marks.map Zm) (m.report.state.answers.map ZS) (m.report.state.entries.map Ze) (Zc m.report.state.commits) m.report.ready m.report.next.number (Za m.report.next.members) (Za m.report.next.owners) (m.report.proposal.slots.map Zh) (m.report.proposal.pending.map ZN) (m.report.proposal.marks.map Zm) (m.report.proposal.answers.map ZS) (m.report.proposal.entries.map Ze) (Zc m.report.proposal.commits) (Za [m.kind,m.view,m.frm,m.to]) (([m.kind,m.view,m.frm,m.to] : List Int).length:Int) i a) (l:=[m.kind,m.view,m.frm,m.to]) nB (fun acc=>some (Zd (acc++((kf n).map (KZ m)).flatten),0)) 11 1000 (by simp) (fun x _=>Jn x)
   (fun k i acc hi ha=>by
    refine (ZjO ..).trans ?_
    have hz:N63 ([m.kind,m.view,m.frm,m.to] : List Int)[i]:=by
     have:=List.getElem_mem hi
     simp only [List.mem_cons,List.not_mem_nil,or_false] at this
     rcases this with e | e | e | e
     ·rw [e];exact hg.kind
     ·rw [e];exact hg.view
     ·rw [e];exact hg.frm
     ·rw [e];exact hg.to
    rw [if_pos (Jg hi)]
    refine (ZT hi _).trans ?_
    rw [s38 acc (by omega) hz.1 hz.2,Option.bind_some,Jd hi (by simp)])
   (fun k i acc hi ha=>by
    refine (ZjO ..).trans ?_
    rw [if_neg (Jh hi),e19,Option.bind_some]
    dsimp only
    rw [hlen,ZCc m hg (kf n) (ZtG n) (Zuj n) acc (by omega)])
   [] (by simp)
  refine Eq.trans e ?_
  simp only [ZsV,Zrk,hk2,List.map_cons,List.map_nil,List.flatten_cons,List.flatten_nil,List.nil_append,List.append_nil,List.append_assoc]
end Go.Proofs.YtjldbnbdcmfbmaaGreat
end

section
namespace Go.Proofs.YtjldbnbdcmfbmaaGreat
open Go Go.AM
set_option linter.unusedSimpArgs false
set_option linter.unusedVariables false
set_option maxRecDepth 100000
theorem ZB2 {z:Int} (h:(Lit.int .i64 z).wf=true):Rng z:=by
 have h1:IntKind.i64.min = -9223372036854775808:=by decide
 have h2:IntKind.i64.max=9223372036854775807:=by decide
 have h3:(2:Int)^63=9223372036854775808:=by decide
 simp [Lit.wf,h1,h2] at h
 unfold Rng
 omega
theorem Wm {d:Nat} {cs:List AV} (h:TyZ Tryz.prog (d+1) 3 cs):∃ z,cs = [I z]∧Rng z:=by
 simp only [TyZ,Tryz.underlying3] at h
 obtain ⟨z,h,hw⟩:=h
 exact ⟨z,h,ZB2 hw⟩
theorem ZnE {d:Nat} {cs:List AV} (h:TyZ Tryz.prog (d+1) 4 cs):∃ z,cs = [B z]:=by
 simp only [TyZ,Tryz.underlying4] at h
 exact h
theorem Zss:Tryz.prog.cellsOf 3=1:=by kernel_rfl
structure Jv.Sized (s:Jv):Prop where
 slots:s.slots.length < 2^44
 pending:s.pending.length < 2^44
 marks:s.marks.length < 2^44
 answers:s.answers.length < 2^44
 entries:s.entries.length < 2^44
 commits:s.commits.length < 2^44
 slot:∀ x∈s.slots,x.node.path.length < 2^44
 req:∀ x∈s.pending,x.src.path.length < 2^44∧∀ z∈YE x.call,Rng z
 entry:∀ x∈s.entries,x.node.path.length < 2^44
structure VV.Sized (v:VV):Prop where
 members:v.members.length < 2^44
 owners:v.owners.length < 2^44
structure Jm.Sized (r:Jm):Prop where
 view:r.view.Sized
 state:r.state.Sized
 next:r.next.Sized
 proposal:r.proposal.Sized
structure Msg.Sized (m:Msg):Prop where
 req:m.req.src.path.length < 2^44
 call:∀ z∈YE m.req.call,Rng z
 ids:m.ids.length < 2^44
 nodes:m.nodes.length < 2^44
 node:∀ x∈m.nodes,x.path.length < 2^44
 cores:m.cores.length < 2^44
 moves:m.moves.length < 2^44
 next:m.next.Sized
 state:m.state.Sized
 report:m.report.Sized
theorem Zdn {n:Nat} (h:n < 2^44):n < 2^63:=by omega
theorem Jv.Sized.fits {s:Jv} (h:s.Sized):s.Fits:=⟨Zdn h.slots,Zdn h.pending,Zdn h.marks,Zdn h.answers,Zdn h.entries,Zdn h.commits,fun x hx=>Zdn (h.slot x hx),fun x hx=>Zdn (h.req x hx).1,fun x hx=>Zdn (h.entry x hx)⟩
theorem VV.Sized.fits {v:VV} (h:v.Sized):v.Fits:=⟨Zdn h.members,Zdn h.owners⟩
theorem Jm.Sized.fits {r:Jm} (h:r.Sized):r.Fits:=⟨h.view.fits,h.state.fits,h.next.fits,h.proposal.fits⟩
theorem Msg.Sized.fits {m:Msg} (h:m.Sized):m.Fits:=⟨Zdn h.req,Zdn h.ids,Zdn h.nodes,fun x hx=>Zdn (h.node x hx),Zdn h.cores,Zdn h.moves,h.next.fits,h.state.fits,h.report.fits⟩
end Go.Proofs.YtjldbnbdcmfbmaaGreat
end

section
namespace Go.Proofs.YtjldbnbdcmfbmaaGreat
open Go Go.AM
set_option linter.unusedSimpArgs false
set_option linter.unusedVariables false
set_option maxRecDepth 100000
end Go.Proofs.YtjldbnbdcmfbmaaGreat
end

section
namespace Go.Proofs.YtjldbnbdcmfbmaaGreat
open Go Go.AM
set_option linter.unusedSimpArgs false
set_option linter.unusedVariables false
set_option maxRecDepth 100000
structure Jv.Short (s:Jv):Prop where
 slots:s.slots.length≤2000000
 pending:s.pending.length≤2000000
 marks:s.marks.length≤2000000
 answers:s.answers.length≤2000000
 entries:s.entries.length≤2000000
 commits:s.commits.length≤2000000
structure Msg.Short (m:Msg):Prop where
 ids:m.ids.length≤2000000
 nodes:m.nodes.length≤2000000
 cores:m.cores.length≤2000000
 moves:m.moves.length≤2000000
 nm:m.next.members.length≤2000000
 no:m.next.owners.length≤2000000
 rvm:m.report.view.members.length≤2000000
 rvo:m.report.view.owners.length≤2000000
 rnm:m.report.next.members.length≤2000000
 rno:m.report.next.owners.length≤2000000
 state:m.state.Short
 rs:m.report.state.Short
 rp:m.report.proposal.Short
theorem n63 {z a:Int} (h0:0≤z) (h1:z≤1099511627776):N63 z:=by
 have:(2:Int)^63=9223372036854775808:=by decide
 exact ⟨h0,by omega⟩
theorem Zaa {i:Id} (h:Zdq i=true):i.Small:=by
 simp only [Zdq,Bool.and_eq_true] at h
 exact Zg0 h.1
theorem ZoJ {z:Int} (h:J0 z=true):N63 z:=by have:=of_decide_eq_true h;exact n63 (a:=0) (by omega) (by omega)
theorem Zbp {z:Int} (h:Z5 z=true):N63 z:=by have:=of_decide_eq_true h;exact n63 (a:=0) (by omega) (by omega)
theorem Zp1 {z:Int} (h:Zbq z=true):N63 z:=by have:=of_decide_eq_true h;exact n63 (a:=0) (by omega) (by omega)
theorem ZtH {z:Int} (h:ZdH z=true):N63 z:=by have:=of_decide_eq_true h;exact n63 (a:=0) (by omega) (by omega)
theorem Zn1 {z:Int} (h:YQ z=true):N63 z:=by have:=of_decide_eq_true h;exact n63 (a:=0) (by omega) (by omega)
theorem ZcL:N63 0:=⟨by decide,by decide⟩
theorem Zj5 {r:Req} (hp:r.src.path.length < 2^44) (hc:∀ z∈YE r.call,Rng z) (h:KQ r=true):r.Good:=by
 simp only [KQ,Bool.and_eq_true,decide_eq_true_eq] at h
 obtain ⟨⟨⟨⟨h1,h2⟩,h3⟩,h4⟩,h5⟩:=h
 have hr:=ZoJ h3
 have h63:(2:Int)^63=9223372036854775808:=by decide
 exact ⟨Zaa h1,hc,hr.1,hr.2,by omega,by omega,Zdn hp⟩
theorem Zon {r:Req} (hp:r.src.path.length < 2^44) (hc:∀ z∈YE r.call,Rng z) (h:ZqK r=true):r.Good:=by
 simp only [ZqK,Bool.and_eq_true,decide_eq_true_eq] at h
 obtain ⟨⟨⟨⟨h1,h2⟩,h3⟩,h4⟩,h5⟩:=h
 have h63:(2:Int)^63=9223372036854775808:=by decide
 exact ⟨by rw [h1];exact Zfq,hc,by omega,by omega,by omega,by omega,Zdn hp⟩
theorem Zbk {s:Jv} (hz:s.Sized) (hs:s.Short) (h:Yy s=true):s.Good:=by
 simp only [Yy,Bool.and_eq_true,List.all_eq_true] at h
 obtain ⟨⟨⟨⟨⟨h1,h2⟩,h3⟩,h4⟩,h5⟩,h6⟩:=h
 have a1:=hs.slots
 have a2:=hs.pending
 have a3:=hs.marks
 have a4:=hs.answers
 have a5:=hs.entries
 have a6:=hs.commits
 have hslot:s.slots.all Zcu=true:=by
  simp only [VU,Bool.and_eq_true] at h1
  rw [Zm6,Bool.and_eq_true,Zkh] at h1
  exact h1.2.1
 rw [List.all_eq_true] at hslot
 refine ⟨by omega,by omega,by omega,by omega,by omega,by omega,fun x hx=>?_,fun x hx=>Zj5 (hz.req x hx).1 (hz.req x hx).2 (h2.1 x hx),fun x hx=>?_,fun x hx=>?_,fun x hx=>?_,fun x hx=>Zaa (h6 x hx)⟩
 ·have h:=hslot x hx
  simp only [Zcu,Bool.and_eq_true,decide_eq_true_eq] at h
  obtain ⟨ho,hi⟩:=h
  refine ⟨Zdn (hz.slot x hx),n63 (a:=0) (by omega) (by omega),?_⟩
  split at hi
  ·simp only [Bool.and_eq_true,decide_eq_true_eq] at hi
   rw [hi.2];exact Zfq
  ·simp only [Bool.and_eq_true,Bool.or_eq_true,decide_eq_true_eq] at hi
   rcases hi.2 with e | e
   ·rw [e];exact Zfq
   ·exact Zaa e
 ·have h:=h3.1 x hx
  simp only [KY,Bool.and_eq_true] at h
  exact ⟨ZoJ h.1,Zaa h.2⟩
 ·have h:=h4.1 x hx
  simp only [Zbi,Bool.and_eq_true,decide_eq_true_eq] at h
  exact ⟨n63 (a:=0) (by omega) (by omega),ZtH h.2⟩
 ·have h:=h5.1 x hx
  simp only [ZaL,Bool.and_eq_true] at h
  exact ⟨Zbp h.1.1,Zp1 h.1.2,Zdn (hz.entry x hx)⟩
theorem KG {α:Type} {l:List α} (h:l.length=0) {p:α→Prop} : ∀ x∈l,p x:=by
 rw [List.length_eq_zero_iff.1 h];intro x hx;cases hx
theorem Zbd {s:Jv} (hs:s.Short) (h:Wk s=true):s.Good:=by
 simp only [Wk,Bool.and_eq_true,decide_eq_true_eq] at h
 obtain ⟨⟨⟨⟨⟨h1,h2⟩,h3⟩,h4⟩,h5⟩,h6⟩:=h
 exact ⟨by omega,by omega,by omega,by omega,by omega,by omega,KG h1,KG h2,KG h3,KG h4,KG h5,KG h6⟩
theorem ZcI {v:VV} (h:VP v=true) (hm:v.members.length≤2000000) (ho:v.owners.length≤2000000):v.Good:=by
 simp only [VP,Bool.and_eq_true,decide_eq_true_eq] at h
 obtain ⟨⟨⟨⟨h1,h2⟩,h3⟩,h4⟩,h5⟩:=h
 rw [Zm6,Bool.and_eq_true,Zkh] at h4
 exact ⟨Zn1 h1,by omega,by omega,fun x hx=>Zbp (List.all_eq_true.1 h4.1 x hx),fun x hx=>Zbp (List.all_eq_true.1 h5 x hx)⟩
theorem ZcS {v:VV} (h:Zc8 v=true):v.Good:=by
 simp only [Zc8,Bool.and_eq_true,decide_eq_true_eq] at h
 obtain ⟨⟨h1,h2⟩,h3⟩:=h
 exact ⟨by rw [h1];exact ZcL,by omega,by omega,KG h2,KG h3⟩
theorem Zoe {m:Msg} (hz:m.Sized) (hs:m.Short) (h:KL m=true):m.Good:=by
 simp only [KL,headOk,Bool.and_eq_true] at h
 obtain ⟨⟨⟨⟨k1,k2⟩,k3⟩,k4⟩,hf,hr⟩:=h
 have hk:=of_decide_eq_true k1
 have fo:∀ f,f < 15→ZM m f=true∨zf m f=true:=by
  intro f hf'
  by_cases hc:f∈kf m.kind.toNat
  ·exact .inl (List.all_eq_true.1 hf f hc)
  ·exact .inr (Zq8 hr f hf' (by simpa using hc))
 have i0:=hs.ids
 have i1:=hs.nodes
 have i2:=hs.cores
 have i3:=hs.moves
 refine ⟨n63 (a:=0) (by omega) (by omega),Zn1 k2,Zbp k3,Zbp k4,?_,?_,?_,?_,?_,?_,by omega,?_,by omega,fun x hx=>Zdn (hz.node x hx),by omega,?_,by omega,?_,?_,?_,?_,?_⟩
 ·rcases fo 8 (by omega) with e | e
  ·exact Zn1 e
  ·rw [show m.round=0 from of_decide_eq_true e];exact ZcL
 ·rcases fo 0 (by omega) with e | e
  ·exact ZoJ e
  ·rw [show m.region=0 from of_decide_eq_true e];exact ZcL
 ·rcases fo 6 (by omega) with e | e
  ·exact Zp1 e
  ·rw [show m.slot=0 from of_decide_eq_true e];exact ZcL
 ·rcases fo 2 (by omega) with e | e
  ·exact Zaa e
  ·rw [show m.op=zid from of_decide_eq_true e];exact Zfq
 ·rcases fo 3 (by omega) with e | e
  ·exact ZtH e
  ·rw [show m.err=0 from of_decide_eq_true e];exact ZcL
 ·rcases fo 1 (by omega) with e | e
  ·exact Zj5 hz.req hz.call e
  ·exact Zon hz.req hz.call e
 ·rcases fo 7 (by omega) with e | e
  ·have e:(decide (m.ids.length≤64)&&m.ids.all K3)=true:=e
   simp only [Bool.and_eq_true,List.all_eq_true] at e
   exact fun x hx=>Zg0 (e.2 x hx)
  ·exact KG (of_decide_eq_true e)
 ·rcases fo 9 (by omega) with e | e
  ·have e:(m.cores.all Z5&&Vu ltI m.cores)=true:=e
   simp only [Bool.and_eq_true,List.all_eq_true] at e
   exact fun x hx=>Zbp (e.1 x hx)
  ·exact KG (of_decide_eq_true e)
 ·rcases fo 14 (by omega) with e | e
  ·have e:(decide (m.moves.length≤16)&&m.moves.all Vz)=true:=e
   simp only [Bool.and_eq_true,List.all_eq_true,Vz] at e
   exact fun x hx=>⟨ZoJ (e.2 x hx).1,Zbp (e.2 x hx).2⟩
  ·exact KG (of_decide_eq_true e)
 ·rcases fo 11 (by omega) with e | e
  ·exact Zn1 e
  ·rw [show m.base=0 from of_decide_eq_true e];exact ZcL
 ·rcases fo 12 (by omega) with e | e
  ·exact ZcI e hs.nm hs.no
  ·exact ZcS e
 ·rcases fo 13 (by omega) with e | e
  ·exact Zbk hz.state hs.state e
  ·exact Zbd hs.state e
 ·rcases fo 10 (by omega) with e | e
  ·have e:Zhq m.report=true:=e
   simp only [Zhq,Bool.and_eq_true] at e
   exact ⟨Zbp e.1.1.1.1,ZcI e.1.1.1.2 hs.rvm hs.rvo,Zbk hz.report.state hs.rs e.1.1.2,ZcI e.1.2 hs.rnm hs.rno,Zbk hz.report.proposal hs.rp e.2⟩
  ·have e:WS m.report=true:=e
   simp only [WS,Bool.and_eq_true,decide_eq_true_eq] at e
   exact ⟨by rw [e.1.1.1.1.1];exact ZcL,ZcS e.1.1.1.1.2,Zbd hs.rs e.1.1.1.2,ZcS e.1.2,Zbd hs.rp e.2⟩
end Go.Proofs.YtjldbnbdcmfbmaaGreat
end

section
namespace Go.Proofs.YtjldbnbdcmfbmaaGreat
open Go Go.AM
set_option linter.unusedSimpArgs false
set_option linter.unusedVariables false
set_option maxRecDepth 100000
theorem Je {a b:List Int} (ha:J5 a) (hb:J5 b):J5 (a++b):=fun z hz=>(List.mem_append.1 hz).elim (ha z) (hb z)
theorem Zqc:J5 []:=fun z hz=>by cases hz
theorem ZeT {α:Type} (c:α→List Int) (h:∀ x,J5 (c x)) (l:List α):J5 (l.map c).flatten:=by
 intro z hz
 obtain ⟨a,ha,hza⟩:=List.mem_flatten.1 hz
 obtain ⟨x,_,rfl⟩:=List.mem_map.1 ha
 exact h x z hza
theorem ZaZ (z:Int):J5 (nB z):=V8 _
theorem Zg4 (i:Id):J5 (idB i):=Je (Je (V8 _) (V8 _)) (V8 _)
theorem ZqQ (c:Call):J5 (Zmu c):=ZeT sgB (fun x=>V8 _) _
theorem ZuO (c:Cap) (h:Yr c=true):J5 (J9 c):=by
 obtain ⟨h1,h2,h3,h4,h5,h6,h7,h8,h9,h10,h11,h12⟩:=Ze9 h
 intro z hz
 simp only [J9,List.mem_cons,List.not_mem_nil,or_false] at hz
 rcases hz with rfl | rfl | rfl | rfl | rfl | rfl | rfl | rfl | rfl | rfl
 ·omega
 ·omega
 ·split<;>omega
 all_goals omega
theorem Zpn (n:Yi):J5 (Vw n):=by
 unfold Vw
 split
 ·rename_i h
  have hc:Yr n.cap=true:=by
   simp only [ZO,Bool.and_eq_true] at h
   exact h.1.1.2
  exact Je (Je (Je (Zg4 _) (V8 _)) (ZeT idB Zg4 _)) (ZuO n.cap hc)
 ·exact Zqc
theorem ZeQ (n:Yi):J5 (WX n):=Je (ZaZ _) (Zpn n)
theorem ZpN (r:Req):J5 (Zjt r):=Je (Je (Je (Je (Zg4 _) (ZqQ _)) (ZaZ _)) (ZaZ _)) (ZeQ _)
theorem ZqE (s:Kc):J5 (Zdx s):=Je (Je (ZeQ _) (ZaZ _)) (Zg4 _)
theorem ZqC (m:ZcA):J5 (ZaP m):=Je (ZaZ _) (Zg4 _)
theorem ZuY (m:Ans):J5 (ZhH m):=Je (ZaZ _) (ZaZ _)
theorem Zt9 (e:Zx):J5 (ZfU e):=Je (Je (ZaZ _) (ZaZ _)) (ZeQ _)
theorem Zr6 (m:ZfT):J5 (ZfL m):=Je (ZaZ _) (ZaZ _)
theorem Y2 {α:Type} (c:α→List Int) (h:∀ x,J5 (c x)) (l:List α):J5 (ZV c l):=Je (ZaZ _) (ZeT c h l)
theorem ZfS (s:Jv):J5 (Wx s):=Je (Y2 _ ZqE _) (Je (Y2 _ ZpN _) (Je (Y2 _ ZqC _) (Je (Y2 _ ZuY _) (Je (Y2 _ Zt9 _) (Y2 _ Zg4 _)))))
theorem ZiS (v:VV):J5 (ZdC v):=Je (ZaZ _) (Je (Y2 _ ZaZ _) (Y2 _ ZaZ _))
theorem ZAo (b:Bool):J5 (bB b):=by
 unfold bB
 split
 ·exact ZaZ 1
 ·exact ZaZ 0
theorem Zvs (r:Jm):J5 (ZpY r):=Je (ZaZ _) (Je (ZiS _) (Je (ZfS _) (Je (ZAo _) (Je (ZiS _) (ZfS _)))))
theorem Zo0 (m:Msg) (f:Nat):J5 (KZ m f):=by
 unfold KZ
 split
 ·exact ZaZ _
 ·exact ZpN _
 ·exact Zg4 _
 ·exact ZaZ _
 ·exact ZAo _
 ·exact Y2 _ ZeQ _
 ·exact ZaZ _
 ·exact Y2 _ Zg4 _
 ·exact ZaZ _
 ·exact Y2 _ ZaZ _
 ·exact Zvs _
 ·exact ZaZ _
 ·exact ZiS _
 ·exact ZfS _
 ·exact Y2 _ Zr6 _
 ·exact Zqc
theorem Zjy (m:Msg):J5 (ZsV m):=Je (Je (ZaZ _) (Je (ZaZ _) (Je (ZaZ _) (ZaZ _)))) (ZeT _ (Zo0 m) _)
end Go.Proofs.YtjldbnbdcmfbmaaGreat
end

section
namespace Go.Proofs.YtjldbnbdcmfbmaaGreat
open Go Go.AM
set_option linter.unusedSimpArgs false
set_option linter.unusedVariables false
set_option maxRecDepth 100000
def Zea:List Int→Cap
 | [b0, b1, b2, b3, b4, b5, b6, b7, b8, b9] => ⟨b0, b5 + b6 * 256 + b7 * 65536 + b8 * 16777216 + b9 * 4294967296, b1, b2 % 8, b3, b4, decide (8 ≤ b2)⟩
 | _ => ⟨0, 0, 0, 0, 0, 0, false⟩
def ZqB (L:List Int):Bool:=decide (L.length=10)&&decide (L.getD 2 0≤15)&&Yr (Zea L)
theorem Zqk {c:Cap} (h:Yr c=true):Zea (Zi4 c)=c∧ZqB (Zi4 c)=true:=by
 obtain ⟨h1,h2,h3,h4,h5,h6,h7,h8,h9,h10,h11,h12⟩:=Ze9 h
 have hc:Zea (Zi4 c)=c:=by
  obtain ⟨k,b,s,r,w,l,d⟩:=c
  simp only [Zi4,h,if_true,J9,Zea] at *
  cases d
  ·simp only [Bool.false_eq_true,if_false]
   congr 1
   ·omega
   ·omega
   ·simp;omega
  ·simp only [if_true]
   congr 1
   ·omega
   ·omega
   ·simp;omega
 refine ⟨hc,?_⟩
 simp only [ZqB,hc,h,Bool.and_true,Bool.and_eq_true,decide_eq_true_eq]
 simp only [Zi4,h,if_true,J9]
 refine ⟨rfl,?_⟩
 simp only [List.getD_cons_succ,List.getD_cons_zero]
 split<;>omega
end Go.Proofs.YtjldbnbdcmfbmaaGreat
end

section
namespace Go.Proofs.YtjldbnbdcmfbmaaGreat
open Go Go.AM
set_option linter.unusedSimpArgs false
set_option linter.unusedVariables false
set_option maxRecDepth 100000
end Go.Proofs.YtjldbnbdcmfbmaaGreat
end

section
namespace Go.Proofs.YtjldbnbdcmfbmaaGreat
open Go Go.AM
set_option linter.unusedSimpArgs false
set_option linter.unusedVariables false
set_option maxRecDepth 100000
def rd:Nat→List Int→Option (Nat×Nat)
 | _, [] => none
 | n, c :: cs =>
  if n=9∧1 < c then none else if 0 < n∧c=0 then none else if c < 128 then some (c.toNat,1) else
  match rd (n+1) cs with
  | some (w, k) => some ((c - 128).toNat + 128 * w, k + 1)
  | none => none
theorem Zvb:∀ (m v n:Nat) (r:List Int),v < 128^m→v < 2^64→n+m≤9→(0 < n→0 < v)→rd n (uv v++r)=some (v,uvN v)
 | 0, v, n, r, h, hv, hn, h0 => by
  have hz:v=0:=by simpa using h
  subst hz
  have:¬ 0 < n:=fun hh=>absurd (h0 hh) (by decide)
  have:n=0:=by omega
  subst this
  rfl
 | m + 1, v, n, r, h, hv, hn, h0 => by
  rw [ZeF hv,ZfD hv]
  by_cases hs:v < 128
  ·rw [if_pos hs,if_pos hs,List.cons_append,rd,if_neg (by omega),if_neg (by omega),if_pos (by omega)]
   simp
  ·have hd:v / 128 < 128^m:=by
    rw [Nat.pow_succ] at h
    exact Nat.div_lt_of_lt_mul (by omega)
   rw [if_neg hs,if_neg hs,List.cons_append,rd,if_neg (by omega),if_neg (by omega),if_neg (by omega),Zvb m (v / 128) (n+1) r hd (by omega) (by omega) (fun _=>by omega)]
   simp only [Option.some.injEq,Prod.mk.injEq,and_true]
   omega
end Go.Proofs.YtjldbnbdcmfbmaaGreat
end

section
namespace Go.Proofs.YtjldbnbdcmfbmaaGreat
open Go Go.AM
set_option linter.unusedSimpArgs false
set_option linter.unusedVariables false
set_option maxRecDepth 100000
def rdo (lim:Nat) (bs:List Int) (off:Nat):Option (Nat×Nat):=
 match rd 0 (bs.drop off) with
 | some (w, k) => if w ≤ lim then some (w, off + k) else none
 | none => none
def rid (bs:List Int) (off:Nat):Option (Id×Nat):=
 match rdo 32 bs off with
 | none => none
 | some (a, o) =>
  match rdo 1073741824 bs o with
  | none => none
  | some (b, o) =>
   match rdo 8 bs o with
   | none => none
   | some (c, o) => some (⟨a, b, c⟩, o)
end Go.Proofs.YtjldbnbdcmfbmaaGreat
end

section
namespace Go.Proofs.YtjldbnbdcmfbmaaGreat
open Go Go.AM
set_option linter.unusedSimpArgs false
set_option linter.unusedVariables false
set_option maxRecDepth 100000
def ZuT (bs:List Int):Nat→Nat→Option (List Id×Nat)
 | 0, off => some ([], off)
 | c + 1, off =>
  match rid bs off with
  | none => none
  | some (i, o) =>
   match ZuT bs c o with
   | none => none
   | some (l, o) => some (i :: l, o)
def Zx9 (bs:List Int) (i:Id) (p:List Id) (o:Nat):Option Yi:=
 if ZqB (bs.drop o)=true∧ZO ⟨i,p,Zea (bs.drop o)⟩=true then some ⟨i,p,Zea (bs.drop o)⟩ else none
def Zzd (bs:List Int):Option Yi:=
 match rid bs 0 with
 | none => none
 | some (i, o) =>
  match rdo 8 bs o with
  | none => none
  | some (c, o) =>
   match ZuT bs c o with
   | none => none
   | some (p, o) => Zx9 bs i p o
end Go.Proofs.YtjldbnbdcmfbmaaGreat
end

section
namespace Go.Proofs.YtjldbnbdcmfbmaaGreat
open Go Go.AM
set_option linter.unusedSimpArgs false
set_option linter.unusedVariables false
set_option maxRecDepth 100000
theorem Zkm {lim v:Nat} (a r:List Int) (hv:v≤lim) (h2:v < 2^62):rdo lim (a++(uv v++r)) a.length=some (v,a.length+uvN v):=by
 have h62:(2:Nat)^62=4611686018427387904:=by decide
 have h64:(2:Nat)^64=18446744073709551616:=by decide
 have h9:(128:Nat)^9=9223372036854775808:=by decide
 unfold rdo
 rw [List.drop_left,Zvb 9 v 0 r (by omega) (by omega) (by omega) (fun h=>absurd h (by decide))]
 simp only [hv,if_true]
theorem ZpP {i:Id} (hi:K3 i=true) (a r:List Int):rid (a++(idB i++r)) a.length=some (i,a.length+(idB i).length):=by
 obtain ⟨h1,h2,h3,h4,h5,h6⟩:=ZiM hi
 have h62:(2:Nat)^62=4611686018427387904:=by decide
 have q1:=Zkm (lim:=32) (v:=i.core.toNat) a (uv i.op.toNat++(uv i.part.toNat++r)) (by omega) (by omega)
 have q2:=Zkm (lim:=1073741824) (v:=i.op.toNat) (a++uv i.core.toNat) (uv i.part.toNat++r) (by omega) (by omega)
 have q3:=Zkm (lim:=8) (v:=i.part.toNat) (a++uv i.core.toNat++uv i.op.toNat) r (by omega) (by omega)
 simp only [List.append_assoc,List.length_append,KE] at q1 q2 q3
 unfold rid
 simp only [idB,List.append_assoc,List.length_append,KE,q1,q2,Nat.add_assoc] at q3 ⊢
 rw [q3]
 simp only [Option.some.injEq,Prod.mk.injEq,and_true]
 have e1:((i.core.toNat:Nat):Int)=i.core:=by omega
 have e2:((i.op.toNat:Nat):Int)=i.op:=by omega
 have e3:((i.part.toNat:Nat):Int)=i.part:=by omega
 rw [e1,e2,e3]
theorem Zkk:∀ (l:List Id) (a r:List Int),(∀ x∈l,K3 x=true)→ZuT (a++((l.map idB).flatten++r)) l.length a.length=some (l,a.length+((l.map idB).flatten).length)
 | [], a, r, _ => by simp [ZuT]
 | x :: l, a, r, h => by
  have q:=ZpP (h x (by simp)) a ((l.map idB).flatten++r)
  have q2:=Zkk l (a++idB x) r fun y hy=>h y (by simp [hy])
  simp only [List.append_assoc,List.length_append] at q q2
  simp only [List.length_cons,List.map_cons,List.flatten_cons,List.append_assoc,ZuT,q,q2,List.length_append,Nat.add_assoc]
def Ztk (n:Yi):List Int:=idB n.id++uv n.path.length++(n.path.map idB).flatten
theorem Zsi {n:Yi} (hn:ZO n=true) (r:List Int):Zzd (Ztk n++r)=Zx9 (Ztk n++r) n.id n.path (Ztk n).length:=by
 obtain ⟨h1,h2,h3,h4⟩:=ZcF hn
 have h62:(2:Nat)^62=4611686018427387904:=by decide
 have q1:=ZpP h1 [] (uv n.path.length++((n.path.map idB).flatten++r))
 have q2:=Zkm (lim:=8) (v:=n.path.length) (idB n.id) ((n.path.map idB).flatten++r) h3 (by omega)
 have q3:=Zkk n.path (idB n.id++uv n.path.length) r fun x hx=>Zm8 hn x hx
 simp only [List.nil_append,List.length_nil,Nat.zero_add] at q1
 simp only [List.append_assoc,List.length_append,KE] at q3
 unfold Zzd Ztk
 simp only [List.append_assoc,q1,q2,q3,List.length_append,KE,Nat.add_assoc]
theorem ZBs {c:Cap} (h:Yr c=true):Zi4 c=J9 c:=by unfold Zi4;rw [if_pos h]
theorem Zjr {n:Yi} (hn:ZO n=true):Zzd (K6 n)=some n:=by
 obtain ⟨h1,h2,h3,h4⟩:=ZcF hn
 obtain ⟨d1,d2⟩:=Zqk h2
 rw [ZBs h2] at d1 d2
 have:=Zsi hn (J9 n.cap)
 have e:K6 n=Ztk n++J9 n.cap:=by simp [K6,Ztk]
 rw [e,this]
 unfold Zx9
 rw [List.drop_left,d1,if_pos ⟨d2,hn⟩]
end Go.Proofs.YtjldbnbdcmfbmaaGreat
end

section
namespace Go.Proofs.YtjldbnbdcmfbmaaGreat
open Go Go.AM
set_option linter.unusedSimpArgs false
set_option linter.unusedVariables false
set_option maxRecDepth 100000
end Go.Proofs.YtjldbnbdcmfbmaaGreat
end

section
namespace Go.Proofs.YtjldbnbdcmfbmaaGreat
open Go Go.AM
set_option linter.unusedSimpArgs false
set_option linter.unusedVariables false
set_option maxRecDepth 100000
theorem ZdZ:∀ (a b:List Int),J5 a→J5 b→((Zd a).map fun e=>(Zcq e).getD 0)=((Zd b).map fun e=>(Zcq e).getD 0)→a=b
 | [], [], _, _, _ => rfl
 | [], _ :: _, _, _, h => by simp [Zd] at h
 | _ :: _, [], _, _, h => by simp [Zd] at h
 | x :: a, y :: b, ha, hb, h => by
  have e1:UInt8.ofNat x.toNat=UInt8.ofNat y.toNat∧((Zd a).map fun e=>(Zcq e).getD 0)=((Zd b).map fun e=>(Zcq e).getD 0):=by
   simpa [Zd,u8c,Zcq] using h
  obtain ⟨x0,x1⟩:=ha x (by simp)
  obtain ⟨y0,y1⟩:=hb y (by simp)
  have e2:=congrArg UInt8.toNat e1.1
  simp only [UInt8.toNat_ofNat'] at e2
  have e3:x=y:=by omega
  rw [e3,ZdZ a b (fun z hz=>ha z (by simp [hz])) (fun z hz=>hb z (by simp [hz])) e1.2]
end Go.Proofs.YtjldbnbdcmfbmaaGreat
end

section
namespace Go.Proofs.YtjldbnbdcmfbmaaGreat
open Go Go.AM
set_option linter.unusedSimpArgs false
set_option linter.unusedVariables false
set_option maxRecDepth 100000
def PF {α:Type} (c:α→List Int) (G:α→Prop):Prop:=∀ a b r s,G a→G b→c a++r=c b++s→a=b∧r=s
theorem Zzi {n:Nat} (h:n≤8):(2:Nat)^(64-7*n)=128*2^(64-7*(n+1)):=by
 rw [show (128:Nat)=2^7 by decide,← Nat.pow_add]
 congr 1;omega
theorem ZpU:∀ (k v n:Nat) (r:List Int),n+k=9→v < 2^(64-7*n)→v < 2^64→(0 < n→0 < v)→rd n (uv v++r)=some (v,uvN v)
 | 0, v, n, r, hn, hv, hv64, h0 => by
  have hn9:n=9:=by omega
  subst hn9
  have hv2:v < 2:=hv
  have:=h0 (by omega)
  rw [ZeF hv64,ZfD hv64,if_pos (by omega),if_pos (by omega),List.cons_append,rd,if_neg (by omega),if_neg (by omega),if_pos (by omega)]
  simp
 | k + 1, v, n, r, hn, hv, hv64, h0 => by
  rw [ZeF hv64,ZfD hv64]
  by_cases hs:v < 128
  ·rw [if_pos hs,if_pos hs,List.cons_append,rd,if_neg (by omega),if_neg (by omega),if_pos (by omega)]
   simp
  ·have hd:v / 128 < 2^(64-7*(n+1)):=by
    rw [Zzi (by omega)] at hv
    exact Nat.div_lt_of_lt_mul hv
   rw [if_neg hs,if_neg hs,List.cons_append,rd,if_neg (by omega),if_neg (by omega),if_neg (by omega),ZpU k (v / 128) (n+1) r (by omega) hd (by omega) (fun _=>by omega)]
   simp only [Option.some.injEq,Prod.mk.injEq,and_true]
   omega
theorem ZmJ {v:Nat} (hv:v < 2^64) (r:List Int):rd 0 (uv v++r)=some (v,uvN v):=ZpU 9 v 0 r rfl hv hv (fun h=>absurd h (Nat.lt_irrefl _))
theorem ZlW:PF uv (fun v=>v < 2^64):=by
 intro a b r s ha hb h
 have h1:=ZmJ ha r
 rw [h,ZmJ hb s] at h1
 have:b=a:=by simp only [Option.some.injEq,Prod.mk.injEq] at h1;exact h1.1
 subst this
 exact ⟨rfl,List.append_cancel_left h⟩
theorem Yp:PF nB N63:=by
 intro a b r s ha hb h
 obtain ⟨h1,h2⟩:=ZlW _ _ _ _ (show a.toNat < 2^64 by have:=ha.2;omega) (show b.toNat < 2^64 by have:=hb.2;omega) h
 exact ⟨by have:=ha.1;have:=hb.1;omega,h2⟩
theorem Znc:BitVec.ofInt 64 18446744073709551615=BitVec.allOnes 64:=by decide
theorem ZnL {z:Int} (h:Rng z):sgV z=if z < 0 then -2*z-1 else 2*z:=by
 obtain ⟨h0,h1⟩:=h
 have h63:(2:Int)^63=9223372036854775808:=by decide
 have h64:(2:Int)^64=18446744073709551616:=by decide
 have wr:∀ x:Int,IntKind.wrap .u64 x=x % 18446744073709551616:=fun x=>by
  simp only [IntKind.wrap]
  have:IntKind.u64.signed=false:=rfl
  simp [this,IntKind.bits]
 have hs:iop .shl .u64 (IntKind.wrap .u64 z) 1=(2*z) % 18446744073709551616:=by
  show IntKind.wrap .u64 (IntKind.wrap .u64 z*2^(min ((1:Int)).toNat IntKind.u64.bits))=_
  rw [show (min ((1:Int)).toNat IntKind.u64.bits)=1 from rfl,wr,wr]
  omega
 unfold sgV
 rw [hs]
 split
 ·rename_i hz
  have e:(2*z) % 18446744073709551616=2*z+18446744073709551616:=by omega
  rw [e,ZlB,Znc,BitVec.allOnes_xor,BitVec.toNat_not,BitVec.toNat_ofInt]
  have e2:((2*z+18446744073709551616) % ((2^64:Nat):Int)).toNat=(2*z+18446744073709551616).toNat:=by
   rw [show ((2^64:Nat):Int)=18446744073709551616 by decide,Int.emod_eq_of_lt (by omega) (by omega)]
  rw [e2,show (2:Nat)^64=18446744073709551616 by decide]
  omega
 ·omega
theorem ZuE:PF sgB Rng:=by
 intro a b r s ha hb h
 have ra:=ZhT a;have rb:=ZhT b
 have h64:(2:Int)^64=((2^64:Nat):Int):=by decide
 obtain ⟨h1,h2⟩:=ZlW _ _ _ _ (show (sgV a).toNat < 2^64 by omega) (show (sgV b).toNat < 2^64 by omega) h
 have he:sgV a=sgV b:=by omega
 rw [ZnL ha,ZnL hb] at he
 refine ⟨?_,h2⟩
 split at he<;>split at he<;>omega
theorem Zil {α:Type} {c:α→List Int} {G:α→Prop} (hc:PF c G):∀ (xs ys:List α) (r s:List Int),xs.length=ys.length→(∀ x∈xs,G x)→(∀ y∈ys,G y)→(xs.map c).flatten++r=(ys.map c).flatten++s→xs=ys∧r=s
 | [], [], r, s, _, _, _, h => ⟨rfl, by simpa using h⟩
 | x :: xs, y :: ys, r, s, hl, hx, hy, h => by
  simp only [List.map_cons,List.flatten_cons,List.append_assoc] at h
  obtain ⟨h1,h⟩:=hc _ _ _ _ (hx x (by simp)) (hy y (by simp)) h
  obtain ⟨h2,h3⟩:=Zil hc xs ys r s (by simpa using hl) (fun z hz=>hx z (by simp [hz])) (fun z hz=>hy z (by simp [hz])) h
  exact ⟨by rw [h1,h2],h3⟩
theorem Y5 {α:Type} {c:α→List Int} {G:α→Prop} (hc:PF c G):PF (ZV c) (fun xs=>xs.length < 2^63∧∀ x∈xs,G x):=by
 intro a b r s ha hb h
 simp only [ZV,List.append_assoc] at h
 obtain ⟨h1,h⟩:=Yp _ _ _ _ ⟨by omega,by have:=ha.1;omega⟩ ⟨by omega,by have:=hb.1;omega⟩ h
 exact Zil hc a b r s (by omega) ha.2 hb.2 h
theorem Zli:PF idB Id.Small:=by
 intro a b r s ha hb h
 have h40:(2:Int)^40=1099511627776:=by decide
 obtain ⟨a1,a2,a3,a4,a5,a6⟩:=ha
 obtain ⟨b1,b2,b3,b4,b5,b6⟩:=hb
 simp only [idB,List.append_assoc] at h
 obtain ⟨h1,h⟩:=ZlW _ _ _ _ (show a.core.toNat < 2^64 by omega) (show b.core.toNat < 2^64 by omega) h
 obtain ⟨h2,h⟩:=ZlW _ _ _ _ (show a.op.toNat < 2^64 by omega) (show b.op.toNat < 2^64 by omega) h
 obtain ⟨h3,h⟩:=ZlW _ _ _ _ (show a.part.toNat < 2^64 by omega) (show b.part.toNat < 2^64 by omega) h
 refine ⟨?_,h⟩
 have e1:a.core=b.core:=by omega
 have e2:a.op=b.op:=by omega
 have e3:a.part=b.part:=by omega
 cases a;cases b
 simp only [Id.mk.injEq]
 exact ⟨e1,e2,e3⟩
theorem ZsY:PF Zmu (fun c=>∀ z∈YE c,Rng z):=by
 intro a b r s ha hb h
 obtain ⟨h1,h2⟩:=Zil ZuE (YE a) (YE b) r s rfl ha hb h
 refine ⟨?_,h2⟩
 cases a;cases b
 simp only [YE,List.cons.injEq,and_true] at h1
 simp only [Call.mk.injEq]
 exact h1
def Zat (n:Yi):Prop:=ZO n=true∨n=Z4
theorem ZjX (n:Yi):(K6 n).length≠0:=by
 simp [K6,J9]
theorem Zfi:PF WX Zat:=by
 intro a b r s ha hb h
 simp only [WX,List.append_assoc] at h
 have la:=Zb9 a;have lb:=Zb9 b
 obtain ⟨h1,h⟩:=Yp _ _ _ _ ⟨by omega,by omega⟩ ⟨by omega,by omega⟩ h
 have hl:(Vw a).length=(Vw b).length:=by omega
 obtain ⟨h2,h3⟩:=List.append_inj h hl
 refine ⟨?_,h3⟩
 have hn0:ZO Z4=false:=by decide
 rcases ha with ha | ha<;>rcases hb with hb | hb
 ·rw [Vw,Vw,if_pos ha,if_pos hb] at h2
  have:=Zjr ha
  rw [h2,Zjr hb] at this
  exact (Option.some.inj this).symm
 ·rw [Vw,Vw,if_pos ha,hb,if_neg (by rw [hn0];decide)] at h2
  exact absurd (by rw [h2];rfl) (ZjX a)
 ·rw [Vw,Vw,if_pos hb,ha,if_neg (by rw [hn0];decide)] at h2
  exact absurd (by rw [← h2];rfl) (ZjX b)
 ·rw [ha,hb]
structure ZB1 (r:Req):Prop where
 good:r.Good
 src:Zat r.src
theorem ZpS:PF Zjt ZB1:=by
 intro a b r s ha hb h
 simp only [Zjt,List.append_assoc] at h
 obtain ⟨h1,h⟩:=Zli _ _ _ _ ha.good.id hb.good.id h
 obtain ⟨h2,h⟩:=ZsY _ _ _ _ ha.good.call hb.good.call h
 obtain ⟨h3,h⟩:=Yp _ _ _ _ ⟨ha.good.reg0,ha.good.reg1⟩ ⟨hb.good.reg0,hb.good.reg1⟩ h
 obtain ⟨h4,h⟩:=Yp _ _ _ _ ⟨ha.good.wid0,ha.good.wid1⟩ ⟨hb.good.wid0,hb.good.wid1⟩ h
 obtain ⟨h5,h⟩:=Zfi _ _ _ _ ha.src hb.src h
 refine ⟨?_,h⟩
 cases a;cases b
 simp only [Req.mk.injEq]
 exact ⟨h1,h2,h3,h4,h5⟩
theorem Zsd:PF Zdx (fun x=>Zat x.node∧N63 x.op∧x.lock.Small):=by
 intro a b r s ha hb h
 simp only [Zdx,List.append_assoc] at h
 obtain ⟨h1,h⟩:=Zfi _ _ _ _ ha.1 hb.1 h
 obtain ⟨h2,h⟩:=Yp _ _ _ _ ha.2.1 hb.2.1 h
 obtain ⟨h3,h⟩:=Zli _ _ _ _ ha.2.2 hb.2.2 h
 refine ⟨?_,h⟩
 cases a;cases b
 simp only [Kc.mk.injEq]
 exact ⟨h1,h2,h3⟩
theorem ZrP:PF ZaP (fun x=>N63 x.region∧x.op.Small):=by
 intro a b r s ha hb h
 simp only [ZaP,List.append_assoc] at h
 obtain ⟨h1,h⟩:=Yp _ _ _ _ ha.1 hb.1 h
 obtain ⟨h2,h⟩:=Zli _ _ _ _ ha.2 hb.2 h
 refine ⟨?_,h⟩
 cases a;cases b
 simp only [ZcA.mk.injEq]
 exact ⟨h1,h2⟩
theorem Zu4:PF ZhH (fun x=>N63 x.op∧N63 x.err):=by
 intro a b r s ha hb h
 simp only [ZhH,List.append_assoc] at h
 obtain ⟨h1,h⟩:=Yp _ _ _ _ ha.1 hb.1 h
 obtain ⟨h2,h⟩:=Yp _ _ _ _ ha.2 hb.2 h
 refine ⟨?_,h⟩
 cases a;cases b
 simp only [Ans.mk.injEq]
 exact ⟨h1,h2⟩
theorem Zvi:PF ZfU (fun x=>N63 x.core∧N63 x.slot∧Zat x.node):=by
 intro a b r s ha hb h
 simp only [ZfU,List.append_assoc] at h
 obtain ⟨h1,h⟩:=Yp _ _ _ _ ha.1 hb.1 h
 obtain ⟨h2,h⟩:=Yp _ _ _ _ ha.2.1 hb.2.1 h
 obtain ⟨h3,h⟩:=Zfi _ _ _ _ ha.2.2 hb.2.2 h
 refine ⟨?_,h⟩
 cases a;cases b
 simp only [Zx.mk.injEq]
 exact ⟨h1,h2,h3⟩
theorem Zr0:PF ZfL (fun x=>N63 x.region∧N63 x.to):=by
 intro a b r s ha hb h
 simp only [ZfL,List.append_assoc] at h
 obtain ⟨h1,h⟩:=Yp _ _ _ _ ha.1 hb.1 h
 obtain ⟨h2,h⟩:=Yp _ _ _ _ ha.2 hb.2 h
 refine ⟨?_,h⟩
 cases a;cases b
 simp only [ZfT.mk.injEq]
 exact ⟨h1,h2⟩
theorem ZAH:PF bB (fun _=>True):=by
 intro a b r s _ _ h
 have z1:N63 1:=⟨by decide,by decide⟩
 have z0:N63 0:=⟨by decide,by decide⟩
 cases a<;>cases b<;>simp only [bB,if_true,Bool.false_eq_true,if_false] at h
 ·exact ⟨rfl,(Yp _ _ _ _ z0 z0 h).2⟩
 ·exact absurd (Yp _ _ _ _ z0 z1 h).1 (by decide)
 ·exact absurd (Yp _ _ _ _ z1 z0 h).1 (by decide)
 ·exact ⟨rfl,(Yp _ _ _ _ z1 z1 h).2⟩
structure Zj0 (s:Jv):Prop where
 good:s.Good
 slot:∀ x∈s.slots,Zat x.node
 req:∀ x∈s.pending,Zat x.src
 entry:∀ x∈s.entries,Zat x.node
theorem Kb {n:Nat} (h:n≤2097152):n < 2^63:=by omega
theorem ZeO:PF Wx Zj0:=by
 intro a b r s ha hb h
 simp only [Wx,List.append_assoc] at h
 obtain ⟨h1,h⟩:=Y5 Zsd _ _ _ _ ⟨Kb ha.good.slots,fun x hx=>⟨ha.slot x hx,(ha.good.slot x hx).2⟩⟩ ⟨Kb hb.good.slots,fun x hx=>⟨hb.slot x hx,(hb.good.slot x hx).2⟩⟩ h
 obtain ⟨h2,h⟩:=Y5 ZpS _ _ _ _ ⟨Kb ha.good.pending,fun x hx=>⟨ha.good.req x hx,ha.req x hx⟩⟩ ⟨Kb hb.good.pending,fun x hx=>⟨hb.good.req x hx,hb.req x hx⟩⟩ h
 obtain ⟨h3,h⟩:=Y5 ZrP _ _ _ _ ⟨Kb ha.good.marks,ha.good.mark⟩ ⟨Kb hb.good.marks,hb.good.mark⟩ h
 obtain ⟨h4,h⟩:=Y5 Zu4 _ _ _ _ ⟨Kb ha.good.answers,ha.good.ans⟩ ⟨Kb hb.good.answers,hb.good.ans⟩ h
 obtain ⟨h5,h⟩:=Y5 Zvi _ _ _ _ ⟨Kb ha.good.entries,fun x hx=>⟨(ha.good.entry x hx).1,(ha.good.entry x hx).2.1,ha.entry x hx⟩⟩ ⟨Kb hb.good.entries,fun x hx=>⟨(hb.good.entry x hx).1,(hb.good.entry x hx).2.1,hb.entry x hx⟩⟩ h
 obtain ⟨h6,h⟩:=Y5 Zli _ _ _ _ ⟨Kb ha.good.commits,ha.good.commit⟩ ⟨Kb hb.good.commits,hb.good.commit⟩ h
 refine ⟨?_,h⟩
 cases a;cases b
 simp only [Jv.mk.injEq]
 exact ⟨h1,h2,h3,h4,h5,h6⟩
theorem ZiJ:PF ZdC VV.Good:=by
 intro a b r s ha hb h
 simp only [ZdC,List.append_assoc] at h
 obtain ⟨h1,h⟩:=Yp _ _ _ _ ha.num hb.num h
 obtain ⟨h2,h⟩:=Y5 Yp _ _ _ _ ⟨Kb ha.members,ha.member⟩ ⟨Kb hb.members,hb.member⟩ h
 obtain ⟨h3,h⟩:=Y5 Yp _ _ _ _ ⟨Kb ha.owners,ha.owner⟩ ⟨Kb hb.owners,hb.owner⟩ h
 refine ⟨?_,h⟩
 cases a;cases b
 simp only [VV.mk.injEq]
 exact ⟨h1,h2,h3⟩
structure ZrN (r:Jm):Prop where
 core:N63 r.core
 view:r.view.Good
 state:Zj0 r.state
 next:r.next.Good
 proposal:Zj0 r.proposal
theorem Zts:PF ZpY ZrN:=by
 intro a b r s ha hb h
 simp only [ZpY,List.append_assoc] at h
 obtain ⟨h1,h⟩:=Yp _ _ _ _ ha.core hb.core h
 obtain ⟨h2,h⟩:=ZiJ _ _ _ _ ha.view hb.view h
 obtain ⟨h3,h⟩:=ZeO _ _ _ _ ha.state hb.state h
 obtain ⟨h4,h⟩:=ZAH _ _ _ _ trivial trivial h
 obtain ⟨h5,h⟩:=ZiJ _ _ _ _ ha.next hb.next h
 obtain ⟨h6,h⟩:=ZeO _ _ _ _ ha.proposal hb.proposal h
 refine ⟨?_,h⟩
 cases a;cases b
 simp only [Jm.mk.injEq]
 exact ⟨h1,h2,h3,h4,h5,h6⟩
def eqF (a b:Msg):Nat→Prop
 | 0 => a.region = b.region
 | 1 => a.req = b.req
 | 2 => a.op = b.op
 | 3 => a.err = b.err
 | 4 => a.settled = b.settled
 | 5 => a.nodes = b.nodes
 | 6 => a.slot = b.slot
 | 7 => a.ids = b.ids
 | 8 => a.round = b.round
 | 9 => a.cores = b.cores
 | 10 => a.report = b.report
 | 11 => a.base = b.base
 | 12 => a.next = b.next
 | 13 => a.state = b.state
 | 14 => a.moves = b.moves
 | _ => True
theorem Ze0 {a:Yi} (h:KB a Z4=true):a=Z4:=by
 simp only [KB,Bool.and_eq_true,decide_eq_true_eq] at h
 obtain ⟨⟨h1,h2⟩,h3⟩:=h
 obtain ⟨i,p,c⟩:=a
 obtain ⟨k,b,bs,rt,w,l,d⟩:=c
 dsimp only at h1 h2 h3
 subst h1 h3
 obtain ⟨rfl,rfl,rfl,rfl,rfl,rfl,rfl⟩:=h2
 rfl
theorem ZmO {r:Req} (h:KQ r=true):Zat r.src:=by
 simp only [KQ,Bool.and_eq_true] at h
 have h:=h.2
 split at h
 ·exact .inr (Ze0 h)
 ·exact .inl h
theorem Zqt {s:Kc} (h:Zcu s=true):Zat s.node:=by
 simp only [Zcu,Bool.and_eq_true] at h
 have h:=h.2
 split at h
 ·rw [Bool.and_eq_true] at h;exact .inr (Ze0 h.1)
 ·rw [Bool.and_eq_true] at h;exact .inl h.1
theorem Za3 {s:Jv} (h:Yy s=true) (hg:s.Good):Zj0 s:=by
 simp only [Yy,Bool.and_eq_true,List.all_eq_true] at h
 obtain ⟨⟨⟨⟨⟨h1,h2⟩,h3⟩,h4⟩,h5⟩,h6⟩:=h
 refine ⟨hg,fun x hx=>?_,fun x hx=>ZmO (h2.1 x hx),fun x hx=>?_⟩
 ·obtain ⟨i,hi,rfl⟩:=List.getElem_of_mem hx
  simp only [VU,Bool.and_eq_true,List.all_eq_true] at h1
  have:=(h1.2 i (by rw [List.mem_range'_1];omega)).1
  rw [J7 _ hi] at this
  exact Zqt this
 ·have:=h5.1 x hx
  simp only [ZaL,Bool.and_eq_true] at this
  exact .inl this.2
theorem ZoY {a b:Msg} (ga:a.Good) (gb:b.Good) {f:Nat} (ha:ZM a f=true) (hb:ZM b f=true) {r s:List Int} (h:KZ a f++r=KZ b f++s):eqF a b f∧r=s:=by
 match f with
 | 0 => exact Yp _ _ _ _ ga.region gb.region h
 | 1 => exact ZpS _ _ _ _ ⟨ga.req, ZmO ha⟩ ⟨gb.req, ZmO hb⟩ h
 | 2 => exact Zli _ _ _ _ ga.op gb.op h
 | 3 => exact Yp _ _ _ _ ga.err gb.err h
 | 4 => exact ZAH _ _ _ _ trivial trivial h
 | 5 =>
  simp only [ZM,Bool.and_eq_true,List.all_eq_true] at ha hb
  exact Y5 Zfi _ _ _ _ ⟨Kb ga.nodesn,fun x hx=>.inl (ha.2 x hx)⟩ ⟨Kb gb.nodesn,fun x hx=>.inl (hb.2 x hx)⟩ h
 | 6 => exact Yp _ _ _ _ ga.slot gb.slot h
 | 7 => exact Y5 Zli _ _ _ _ ⟨Kb ga.idsn, ga.ids⟩ ⟨Kb gb.idsn, gb.ids⟩ h
 | 8 => exact Yp _ _ _ _ ga.round gb.round h
 | 9 => exact Y5 Yp _ _ _ _ ⟨Kb ga.coresn, ga.cores⟩ ⟨Kb gb.coresn, gb.cores⟩ h
 | 10 =>
  simp only [ZM,Zhq,Bool.and_eq_true] at ha hb
  exact Zts _ _ _ _ ⟨ga.report.core,ga.report.view,Za3 ha.1.1.2 ga.report.state,ga.report.next,Za3 ha.2 ga.report.proposal⟩ ⟨gb.report.core,gb.report.view,Za3 hb.1.1.2 gb.report.state,gb.report.next,Za3 hb.2 gb.report.proposal⟩ h
 | 11 => exact Yp _ _ _ _ ga.base gb.base h
 | 12 => exact ZiJ _ _ _ _ ga.next gb.next h
 | 13 => exact ZeO _ _ _ _ (Za3 ha ga.state) (Za3 hb gb.state) h
 | 14 => exact Y5 Zr0 _ _ _ _ ⟨Kb ga.movesn, fun x hx => ga.moves x hx⟩ ⟨Kb gb.movesn, fun x hx => gb.moves x hx⟩ h
 | n + 15 => exact ⟨trivial, h⟩
theorem Zha {a b:Msg} (ga:a.Good) (gb:b.Good):∀ (L:List Nat) (r s:List Int),(∀ f∈L,ZM a f=true)→(∀ f∈L,ZM b f=true)→(L.map (KZ a)).flatten++r=(L.map (KZ b)).flatten++s→(∀ f∈L,eqF a b f)∧r=s
 | [], r, s, _, _, h => ⟨fun f hf => (by cases hf), by simpa using h⟩
 | f :: L, r, s, ha, hb, h => by
  simp only [List.map_cons,List.flatten_cons,List.append_assoc] at h
  obtain ⟨h1,h⟩:=ZoY ga gb (ha f (by simp)) (hb f (by simp)) h
  obtain ⟨h2,h3⟩:=Zha ga gb L r s (fun g hg=>ha g (by simp [hg])) (fun g hg=>hb g (by simp [hg])) h
  refine ⟨fun g hg=>?_,h3⟩
  rw [List.mem_cons] at hg
  rcases hg with rfl | hg
  ·exact h1
  ·exact h2 g hg
theorem Y9 {α:Type} {l:List α} (h:l.length=0):l = []:=List.eq_nil_of_length_eq_zero h
theorem ZnG {r:Req} (h:ZqK r=true):r=Z8:=by
 simp only [ZqK,Bool.and_eq_true,decide_eq_true_eq] at h
 obtain ⟨⟨⟨⟨h1,h2⟩,h3⟩,h4⟩,h5⟩:=h
 obtain ⟨i,c,rg,w,n⟩:=r
 obtain ⟨c0,c1,c2,c3,c4,c5,c6,c7,c8,c9,c10,c11⟩:=c
 dsimp only at h1 h2 h3 h4 h5
 have hn:=Ze0 h5
 subst h1 h3 h4 hn
 obtain ⟨rfl,rfl,rfl,rfl,rfl,rfl,rfl,rfl,rfl,rfl,rfl,rfl⟩:=h2
 rfl
theorem Zb6 {v:VV} (h:Zc8 v=true):v=ZL:=by
 simp only [Zc8,Bool.and_eq_true,decide_eq_true_eq] at h
 obtain ⟨n,m,o⟩:=v
 dsimp only at h
 obtain ⟨⟨h1,h2⟩,h3⟩:=h
 rw [h1,Y9 h2,Y9 h3];rfl
theorem W4 {s:Jv} (h:Wk s=true):s=Zr:=by
 simp only [Wk,Bool.and_eq_true,decide_eq_true_eq] at h
 obtain ⟨a,b,c,d,e,f⟩:=s
 dsimp only at h
 obtain ⟨⟨⟨⟨⟨h1,h2⟩,h3⟩,h4⟩,h5⟩,h6⟩:=h
 rw [Y9 h1,Y9 h2,Y9 h3,Y9 h4,Y9 h5,Y9 h6];rfl
theorem Zep {r:Jm} (h:WS r=true):r=Zt:=by
 simp only [WS,Bool.and_eq_true,decide_eq_true_eq,Bool.not_eq_true'] at h
 obtain ⟨a,b,c,d,e,f⟩:=r
 dsimp only at h
 obtain ⟨⟨⟨⟨⟨h1,h2⟩,h3⟩,h4⟩,h5⟩,h6⟩:=h
 rw [h1,Zb6 h2,W4 h3,h4,Zb6 h5,W4 h6];rfl
theorem ZyG {a b:Msg} {g:Nat} (ha:zf a g=true) (hb:zf b g=true):eqF a b g:=by
 match g with
 | 0 => simp only [zf, decide_eq_true_eq] at ha hb; show a.region = b.region; rw [ha, hb]
 | 1 => show a.req = b.req; rw [ZnG ha, ZnG hb]
 | 2 => simp only [zf, decide_eq_true_eq] at ha hb; show a.op = b.op; rw [ha, hb]
 | 3 => simp only [zf, decide_eq_true_eq] at ha hb; show a.err = b.err; rw [ha, hb]
 | 4 => simp only [zf, Bool.not_eq_true'] at ha hb; show a.settled = b.settled; rw [ha, hb]
 | 5 => simp only [zf, decide_eq_true_eq] at ha hb; show a.nodes = b.nodes; rw [Y9 ha, Y9 hb]
 | 6 => simp only [zf, decide_eq_true_eq] at ha hb; show a.slot = b.slot; rw [ha, hb]
 | 7 => simp only [zf, decide_eq_true_eq] at ha hb; show a.ids = b.ids; rw [Y9 ha, Y9 hb]
 | 8 => simp only [zf, decide_eq_true_eq] at ha hb; show a.round = b.round; rw [ha, hb]
 | 9 => simp only [zf, decide_eq_true_eq] at ha hb; show a.cores = b.cores; rw [Y9 ha, Y9 hb]
 | 10 => show a.report = b.report; rw [Zep ha, Zep hb]
 | 11 => simp only [zf, decide_eq_true_eq] at ha hb; show a.base = b.base; rw [ha, hb]
 | 12 => show a.next = b.next; rw [Zb6 ha, Zb6 hb]
 | 13 => show a.state = b.state; rw [W4 ha, W4 hb]
 | 14 => simp only [zf, decide_eq_true_eq] at ha hb; show a.moves = b.moves; rw [Y9 ha, Y9 hb]
 | n + 15 => exact trivial
theorem Znh {a b:Msg} (h1:a.kind=b.kind) (h2:a.view=b.view) (h3:a.frm=b.frm) (h4:a.to=b.to) (h:∀ g,g < 15→eqF a b g):a=b:=by
 have e0:a.region=b.region:=h 0 (by decide)
 have e1:a.req=b.req:=h 1 (by decide)
 have e2:a.op=b.op:=h 2 (by decide)
 have e3:a.err=b.err:=h 3 (by decide)
 have e4:a.settled=b.settled:=h 4 (by decide)
 have e5:a.nodes=b.nodes:=h 5 (by decide)
 have e6:a.slot=b.slot:=h 6 (by decide)
 have e7:a.ids=b.ids:=h 7 (by decide)
 have e8:a.round=b.round:=h 8 (by decide)
 have e9:a.cores=b.cores:=h 9 (by decide)
 have e10:a.report=b.report:=h 10 (by decide)
 have e11:a.base=b.base:=h 11 (by decide)
 have e12:a.next=b.next:=h 12 (by decide)
 have e13:a.state=b.state:=h 13 (by decide)
 have e14:a.moves=b.moves:=h 14 (by decide)
 cases a;cases b
 simp only [Msg.mk.injEq]
 exact ⟨h1,h2,h3,h4,e8,e0,e6,e2,e3,e4,e1,e7,e5,e9,e14,e11,e12,e13,e10⟩
structure ZAk (m:Msg):Prop where
 good:m.Good
 valid:KL m=true
theorem Zv2:PF ZsV ZAk:=by
 intro a b r s ha hb h
 simp only [ZsV,Zrk,List.append_assoc] at h
 obtain ⟨h1,h⟩:=Yp _ _ _ _ ha.good.kind hb.good.kind h
 obtain ⟨h2,h⟩:=Yp _ _ _ _ ha.good.view hb.good.view h
 obtain ⟨h3,h⟩:=Yp _ _ _ _ ha.good.frm hb.good.frm h
 obtain ⟨h4,h⟩:=Yp _ _ _ _ ha.good.to hb.good.to h
 have va:=ha.valid;have vb:=hb.valid
 simp only [KL,Bool.and_eq_true,List.all_eq_true] at va vb
 rw [← h1] at h vb
 obtain ⟨h5,h6⟩:=Zha ha.good hb.good _ _ _ va.2.1 vb.2.1 h
 refine ⟨Znh h1 h2 h3 h4 fun g hg=>?_,h6⟩
 by_cases hk:g∈kf a.kind.toNat
 ·exact h5 g hk
 ·have ra:=va.2.2;have rb:=vb.2.2
  simp only [rest,List.all_eq_true,List.mem_range,Bool.or_eq_true] at ra rb
  have hk':¬ (kf a.kind.toNat).contains g=true:=fun h=>hk (List.contains_iff_mem.1 h)
  exact ZyG ((ra g hg).resolve_left hk') ((rb g hg).resolve_left hk')
end Go.Proofs.YtjldbnbdcmfbmaaGreat
end

section
namespace Go.Proofs.YtjldbnbdcmfbmaaGreat
open Go Go.AM
set_option linter.unusedSimpArgs false
set_option linter.unusedVariables false
set_option maxRecDepth 100000
theorem Zpq {a b:List Int} (ha:J5 a) (hb:J5 b) (h:ByteArray.toList (bytesOf (Zd a))=ByteArray.toList (bytesOf (Zd b))):a=b:=by
 rw [ByteArray.toList_eq,ByteArray.toList_eq] at h
 exact ZdZ a b ha hb (by simpa [bytesOf] using h)
theorem YX {α:Type} {q:α→α→Bool} (hq:∀ a b,q a b=true→a=b) {l m:List α} (h:Yo q l m=true):l=m:=by
 simp only [Yo,Bool.and_eq_true,decide_eq_true_eq,List.all_eq_true] at h
 refine List.ext_getElem h.1 fun i h1 h2=>?_
 have:=h.2 i (by rw [List.mem_range'_1];omega)
 rw [Wq q h1 h2] at this
 exact hq _ _ this
theorem ZaH {a b:Yi} (h:KB a b=true):a=b:=by
 simp only [KB,Bool.and_eq_true,decide_eq_true_eq] at h
 obtain ⟨⟨h1,h2⟩,h3⟩:=h
 obtain ⟨i,p,c⟩:=a
 obtain ⟨i2,p2,c2⟩:=b
 obtain ⟨k,b,bs,rt,w,l,d⟩:=c
 obtain ⟨k2,b2,bs2,rt2,w2,l2,d2⟩:=c2
 dsimp only at h1 h2 h3
 subst h1 h3
 obtain ⟨rfl,rfl,rfl,rfl,rfl,rfl,rfl⟩:=h2
 rfl
theorem Zkn {a b:Req} (h:ZbG a b=true):a=b:=by
 simp only [ZbG,Bool.and_eq_true,decide_eq_true_eq] at h
 obtain ⟨i,c,rg,w,n⟩:=a
 obtain ⟨i2,cc,rg2,w2,n2⟩:=b
 obtain ⟨x,y,z⟩:=i
 obtain ⟨x2,y2,z2⟩:=i2
 obtain ⟨c0,c1,c2,c3,c4,c5,c6,c7,c8,c9,c10,c11⟩:=c
 obtain ⟨e0,e1,e2,e3,e4,e5,e6,e7,e8,e9,e10,e11⟩:=cc
 dsimp only at h
 simp only [Req.mk.injEq,Id.mk.injEq,Call.mk.injEq]
 have hn:n=n2:=ZaH (by grind)
 grind
theorem ZnX {a b:Kc} (h:Zfp a b=true):a=b:=by
 simp only [Zfp,Bool.and_eq_true,decide_eq_true_eq] at h
 obtain ⟨⟨h1,h2⟩,h3⟩:=h
 have hn:=ZaH h3
 obtain ⟨n,p,k⟩:=a
 obtain ⟨n2,p2,k2⟩:=b
 obtain ⟨x,y,z⟩:=k
 obtain ⟨x2,y2,z2⟩:=k2
 dsimp only at h1 h2 hn
 subst h1 hn
 obtain ⟨rfl,rfl,rfl⟩:=h2
 rfl
theorem Zl7 {a b:ZcA} (h:ZaQ a b=true):a=b:=by
 simp only [ZaQ,decide_eq_true_eq] at h
 obtain ⟨r,k⟩:=a
 obtain ⟨r2,k2⟩:=b
 obtain ⟨x,y,z⟩:=k
 obtain ⟨x2,y2,z2⟩:=k2
 dsimp only at h
 obtain ⟨rfl,rfl,rfl,rfl⟩:=h
 rfl
theorem ZoR {a b:Ans} (h:ZfI a b=true):a=b:=by
 simp only [ZfI,decide_eq_true_eq] at h
 cases a;cases b
 dsimp only at h
 obtain ⟨rfl,rfl⟩:=h
 rfl
theorem Zoc {a b:Zx} (h:Zfz a b=true):a=b:=by
 simp only [Zfz,Bool.and_eq_true,decide_eq_true_eq] at h
 obtain ⟨⟨h1,h2⟩,h3⟩:=h
 have hn:=ZaH h3
 cases a;cases b
 dsimp only at h1 h2 hn
 subst h1 h2 hn
 rfl
theorem Zfv {a b:Int} (h:Zba a b=true):a=b:=by simpa [Zba] using h
theorem Zmp {a b:ZfT} (h:ZaG a b=true):a=b:=by
 simp only [ZaG,decide_eq_true_eq] at h
 cases a;cases b
 dsimp only at h
 obtain ⟨rfl,rfl⟩:=h
 rfl
theorem Zqg {a b:Int} (h:cop .eql a b=true):a=b:=by simpa [cop] using h
theorem K9 {a b:Int} (h:(!cop .neq a b)=true):a=b:=by simpa [cop] using h
theorem Zfr {a b:VV} (h:Zf1 a b=true):a=b:=by
 simp only [Zf1,Bool.and_eq_true] at h
 obtain ⟨h1,h2,h3⟩:=h
 have e1:=Zqg h1
 have e2:=YX (fun _ _=>Zfv) h2
 have e3:=YX (fun _ _=>Zfv) h3
 cases a;cases b
 simp only [VV.mk.injEq]
 exact ⟨e1,e2,e3⟩
theorem Zde {a b:Jv} (h:Zbw a b=true):a=b:=by
 simp only [Zbw,Bool.and_eq_true,decide_eq_true_eq] at h
 obtain ⟨h1,h2,h3,h4,h5,h6⟩:=h
 have e1:=YX (fun _ _=>ZnX) h1
 have e2:=YX (fun _ _=>Zkn) h2
 have e3:=YX (fun _ _=>Zl7) h3
 have e4:=YX (fun _ _=>ZoR) h4
 have e5:=YX (fun _ _=>Zoc) h5
 cases a;cases b
 simp only [Jv.mk.injEq]
 exact ⟨e1,e2,e3,e4,e5,h6⟩
theorem Zk6 {a b:Jm} (h:Za4 a b=true):a=b:=by
 simp only [Za4,Bool.and_eq_true,beq_iff_eq] at h
 obtain ⟨h1,h2,h3,h4,h5,h6⟩:=h
 have e1:=Zqg h1
 have e2:=Zfr h2
 have e3:=Zde h3
 have e5:=Zfr h5
 have e6:=Zde h6
 cases a;cases b
 simp only [Jm.mk.injEq]
 exact ⟨e1,e2,e3,h4,e5,e6⟩
theorem ZoM {a b:Msg} (h:Zld a b=true):a=b:=by
 rw [Zld,Bool.and_eq_true] at h
 obtain ⟨h1,h⟩:=h
 rw [Bool.and_eq_true] at h
 obtain ⟨h2,h⟩:=h
 rw [Bool.and_eq_true] at h
 obtain ⟨h3,h⟩:=h
 rw [Bool.and_eq_true] at h
 obtain ⟨h4,h⟩:=h
 rw [Bool.and_eq_true] at h
 obtain ⟨h5,h⟩:=h
 rw [Bool.and_eq_true] at h
 obtain ⟨h6,h⟩:=h
 rw [Bool.and_eq_true] at h
 obtain ⟨h7,h⟩:=h
 rw [Bool.and_eq_true] at h
 obtain ⟨h8,h⟩:=h
 rw [Bool.and_eq_true] at h
 obtain ⟨h9,h⟩:=h
 rw [Bool.and_eq_true] at h
 obtain ⟨h10,h⟩:=h
 rw [Bool.and_eq_true] at h
 obtain ⟨h11,h⟩:=h
 rw [Bool.and_eq_true] at h
 obtain ⟨h12,h⟩:=h
 rw [Bool.and_eq_true] at h
 obtain ⟨h13,h⟩:=h
 rw [Bool.and_eq_true] at h
 obtain ⟨h14,h⟩:=h
 rw [Bool.and_eq_true] at h
 obtain ⟨h15,h⟩:=h
 rw [Bool.and_eq_true] at h
 obtain ⟨h16,h⟩:=h
 rw [Bool.and_eq_true] at h
 obtain ⟨h17,h⟩:=h
 rw [Bool.and_eq_true] at h
 obtain ⟨h18,h19⟩:=h
 refine Znh (K9 h1) (K9 h2) (K9 h3) (K9 h4) fun g hg=>?_
 match g with
 | 0 => exact K9 h6
 | 1 => exact Zkn h12
 | 2 =>
  show a.op=b.op
  rw [Bool.not_not,Yn] at h8
  exact h8
 | 3 => exact K9 h9
 | 4 => show a.settled = b.settled; rw [Bool.not_not, beq_iff_eq] at h10; exact h10
 | 5 => exact YX (fun _ _ => ZaH) h14
 | 6 => exact K9 h7
 | 7 => show a.ids = b.ids; rw [decide_eq_true_eq] at h13; exact h13
 | 8 => exact K9 h5
 | 9 => exact YX (fun _ _ => Zfv) h15
 | 10 => exact Zk6 h19
 | 11 => exact K9 h11
 | 12 => exact Zfr h17
 | 13 => exact Zde h18
 | 14 => exact YX (fun _ _ => Zmp) h16
 | n + 15 => exact trivial
end Go.Proofs.YtjldbnbdcmfbmaaGreat
end

section
namespace Go.Proofs.YtjldbnbdcmfbmaaGreat
open Go Go.AM
set_option linter.unusedSimpArgs false
set_option linter.unusedVariables false
set_option maxRecDepth 100000
theorem Zrn:Ret (fun r=>r=true) ((g9).bind fun (r:Bool)=>some (r)):=YM s9 (Zg rfl)
theorem StS.sized {s:Jv} (h:StS s) (hc:Zeh s):s.Sized:=by
 have h1:=h.slots;have h2:=h.pend;have h3:=h.marks;have h4:=h.answers;have h5:=h.entries;have h6:=h.commits
 exact ⟨by omega,by omega,by omega,by omega,by omega,by omega,fun x hx=>by have:=h.spath x hx;omega,fun x hx=>⟨by have:=h.psrc x hx;omega,hc x hx⟩,fun x hx=>by have:=h.epath x hx;omega⟩
theorem VwG.sized {v:VV} (h:VwG v):v.Sized:=⟨by have:=h.members;omega,by have:=h.owners;omega⟩
theorem MsS.sized {m:Msg} (h:MsS m) (hc:ZnC m):m.Sized:=⟨by have:=h.req;omega,hc.1,by have:=h.ids;omega,by have:=h.nodes;omega,fun x hx=>by have:=h.node x hx;omega,by have:=h.cores;omega,by have:=h.moves;omega,h.next.sized,h.state.sized hc.2.1,⟨h.report.view.sized,h.report.state.sized hc.2.2.1,h.report.next.sized,h.report.proposal.sized hc.2.2.2⟩⟩
theorem StS.shrt {s:Jv} (h:StS s):s.Short:=⟨by have:=h.slots;omega,by have:=h.pend;omega,by have:=h.marks;omega,by have:=h.answers;omega,by have:=h.entries;omega,by have:=h.commits;omega⟩
theorem MsS.shrt {m:Msg} (h:MsS m):m.Short:=⟨by have:=h.ids;omega,by have:=h.nodes;omega,by have:=h.cores;omega,by have:=h.moves;omega,by have:=h.next.members;omega,by have:=h.next.owners;omega,by have:=h.report.view.members;omega,by have:=h.report.view.owners;omega,by have:=h.report.next.members;omega,by have:=h.report.next.owners;omega,h.state.shrt,h.report.state.shrt,h.report.proposal.shrt⟩
theorem MsS.gm {m:Msg} (h:MsS m) (hc:ZnC m) (hv:KL m=true):ZAk m:=⟨Zoe (h.sized hc) h.shrt hv,hv⟩
theorem s7 (k1 k2:Int) (l1:List Int) (h1:RL l1) (h1l:l1.length < 2^63) (l2:List Int) (h2:RL l2) (h2l:l2.length < 2^63) (sts:List ZsU) (hn:sts.length < 2^63):g7 k1 k2 (Za l1) (Za l2) (sts.map Za5)=some true:=by
 have key:Ret (fun r=>r=true) (g7 k1 k2 (Za l1) (Za l2) (sts.map Za5)):=by
  rw [Zyy]
  refine Zk (fun _=>Zrn) fun _=>Zk (fun _=>Zrn) fun _=>?_
  refine Zb (s11 sts hn) fun r ⟨f,hf,hr⟩=>?_
  subst hr
  refine Zb (s10 k1 l1 h1l f 30 hf (by omega)) fun r ⟨a,hr,va,ha,ca⟩=>?_
  subst hr
  refine Zb (s10 k2 l2 h2l f 30 hf (by omega)) fun r ⟨b,hr,vb,hb,cb⟩=>?_
  subst hr
  have ga:=ha.gm (ca h1) va
  have gb:=hb.gm (cb h2) vb
  have e1:=s14 a ha.fits fun _=>ga.good
  have e2:=s14 b hb.fits fun _=>gb.good
  rw [va,if_pos rfl] at e1
  rw [vb,if_pos rfl] at e2
  refine YM e1 (YM e2 ?_)
  refine Zf (if_pos rfl) (Zf (if_pos rfl) (Zn (Zj1 (Zjy a)) (Zn (Zj1 (Zjy b)) ?_)))
  refine YM (s19 a b ha.fits hb.fits) ?_
  refine Zf (if_pos ?_) Zrn
  by_cases h:ZsV a=ZsV b
  ·have hab:a=b:=(Zv2 a b [] [] ga gb (by rw [h])).1
   subst hab
   rw [ZkY]
   simp
  ·have hne:Zld a b=false:=by
    rw [← Bool.not_eq_true]
    intro hs
    exact h (by rw [ZoM hs])
   rw [hne]
   rw [beq_iff_eq,beq_eq_false_iff_ne]
   exact fun hh=>h (Zpq (Zjy a) (Zjy b) hh)
 obtain ⟨r,e,rfl⟩:=key
 exact e
end Go.Proofs.YtjldbnbdcmfbmaaGreat
end

section
namespace Go.Proofs.YtjldbnbdcmfbmaaGreat
open Go Go.AM
set_option linter.unusedSimpArgs false
set_option linter.unusedVariables false
set_option maxRecDepth 100000
theorem Zju {x:AV} (h:ZbJ Tryz.prog 12 3 x):∃ z,x=I z:=by
 simp only [ZbJ,Tryz.underlying3] at h
 obtain ⟨z,hz,_⟩:=Wm h.2
 exact ⟨z,by simpa using hz⟩
theorem ZgR {x:AV} (h:ZbJ Tryz.prog 12 22 x):∃ l:List Int,x = .slice false 1 (Za l)∧RL l∧l.length < 2^63:=by
 simp only [ZbJ,Tryz.underlying22] at h
 have h2:=h.2
 rw [TyZ] at h2
 simp only [Tryz.underlying22,Zss] at h2
 obtain ⟨xs,h1,h0,h2,h3⟩:=h2
 obtain ⟨l,rfl,h5⟩:=Zce (f:=Wf) (p:=fun x=>Rng x) xs fun y hy=>Wm (h3 y hy)
 exact ⟨l,by simpa [Za] using h1,h5,ZAR (by simpa using h2)⟩
theorem ZsJ {d:Nat} {cs:List AV} (h:TyZ Tryz.prog (d+2) 84 cs):∃ s:ZsU,cs=Za5 s:=by
 rw [TyZ] at h
 simp only [Tryz.underlying84] at h
 obtain ⟨ps,rfl,hl,hp⟩:=h
 obtain ⟨p0,p1,p2,p3,p4,p5,p6,p7,p8,p9,rfl⟩:∃ p0 p1 p2 p3 p4 p5 p6 p7 p8 p9,ps = [p0,p1,p2,p3,p4,p5,p6,p7,p8,p9]:=by
  match ps,hl with
  | [p0, p1, p2, p3, p4, p5, p6, p7, p8, p9], _ => exact ⟨p0, p1, p2, p3, p4, p5, p6, p7, p8, p9, rfl⟩
 obtain ⟨a,rfl⟩:=ZnE (hp 0 _ _ rfl rfl)
 obtain ⟨b,rfl,_⟩:=Wm (hp 1 _ _ rfl rfl)
 obtain ⟨c,rfl,_⟩:=Wm (hp 2 _ _ rfl rfl)
 obtain ⟨d,rfl,_⟩:=Wm (hp 3 _ _ rfl rfl)
 obtain ⟨e,rfl,_⟩:=Wm (hp 4 _ _ rfl rfl)
 obtain ⟨f,rfl,_⟩:=Wm (hp 5 _ _ rfl rfl)
 obtain ⟨g,rfl,_⟩:=Wm (hp 6 _ _ rfl rfl)
 obtain ⟨i,rfl,_⟩:=Wm (hp 7 _ _ rfl rfl)
 obtain ⟨j,rfl,_⟩:=Wm (hp 8 _ _ rfl rfl)
 obtain ⟨k,rfl⟩:=ZnE (hp 9 _ _ rfl rfl)
 exact ⟨⟨a,b,c,d,e,f,g,i,j,k⟩,rfl⟩
theorem ZkB {x:AV} (h:ZbJ Tryz.prog 12 23 x):∃ l:List ZsU,x = .slice false 10 (l.map Za5)∧l.length < 2^63:=by
 simp only [ZbJ,Tryz.underlying23] at h
 have hh:=h.2
 rw [TyZ] at hh
 simp only [Tryz.underlying23,Zu6] at hh
 obtain ⟨xs,h1,_,h2,h3⟩:=hh
 obtain ⟨l,rfl,h5⟩:=Zce (f:=Za5) (p:=fun _=>True) xs fun y hy=>(ZsJ (h3 y hy)).elim fun a h=>⟨a,h,trivial⟩
 exact ⟨l,by simpa using h1,ZAR (by simpa using h2)⟩
end Go.Proofs.YtjldbnbdcmfbmaaGreat
end
