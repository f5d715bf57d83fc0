/- W8L23j, W8E18w, W8E11c, W8E11d, W8E11e, W8E11f, W8E12b, W8E12g, W8E18k, W8E18l, W8E18m, W8E18n, W8E18o, W8X18e, W8E18p, W8E18q, W8D11g, W8D12f, W8D12h, W8D12i, W8D12j, W8D12k, W8D12l, W8D12m, W8p, W8q, W8s, W8a: texts of the proof, put together. -/
import Derived.Test.YtjldbnbdcmfbmaaGreatM5
import Derived.Test.YtjldbnbdcmfbmaaGreatF8f
import Derived.Test.YtjldbnbdcmfbmaaGreatM4

section
namespace Go.Proofs.YtjldbnbdcmfbmaaGreat
open Go Go.AM
set_option linter.unusedSimpArgs false
set_option linter.unusedVariables false
set_option maxRecDepth 100000
theorem Zr {b:Bool} (h:b=false):¬ b=true:=by simp [h]
structure VwG (v:Vu):Prop where
 ok:V1 v=true
 members:v.members.length≤4
 owners:v.owners.length≤4
theorem VU {z:Int} (h:0≤z∧z < 4):Jh z=true:=by simp only [Jh,decide_eq_true_eq];omega
theorem s29 (l:List Int):Ret (fun r=>∃ v:Vu,r=(v.number,Za v.members,Za v.owners)∧VwG v) (g29 (Za l)):=by
 rw [Zwy]
 refine Zc (Zp l _) fun _ _=>Zc (place _ 200 (by omega) (by omega)) fun num hnum=>?_
 have part0:∀ mem:List Int,mem.length≤4→(∀ x∈mem,Jh x=true)→(∀ i (h:i < mem.length),Zht mem i=true)→Ret (fun r=>∃ v:Vu,r=(v.number,Za v.members,Za v.owners)∧VwG v) (ZlM ZB (Za l) 0 E0 E0 num (Za mem) E0 0):=by
  intro mem hm1 hm2 hm3
  refine Yj (F:=fun k (s:LL) z=>ZlM k (Za l) 0 E0 E0 num (Za mem) s z) 3 (fun i s=>∃ es:List Int,s=Za es∧es.length≤i∧∀ x∈es,Jh x=true) (by omega) (fun k i s hi hj ih=>?_) _ ⟨[],rfl,by simp,by simp⟩
  obtain ⟨es,rfl,h1,h2⟩:=hj
  show Ret _ (ZlM (k+1) _ _ _ _ _ _ _ _)
  rw [ZqK]
  refine Zc (Zp l _) fun _ _=>Zc (place _ 3 (by omega) (by omega)) fun r9 h9=>?_
  refine Zl (fun h4=>?_) fun _=>Zg ⟨⟨num,mem,es⟩,rfl,⟨?_,hm1,by show es.length≤4;omega⟩⟩
  ·simp only [CQ] at h4
   refine Zk (ZA (by simp [Z4];omega) (by omega)) ?_
   refine Zc (Zp l _) fun _ _=>Zc (place _ 4 (by omega) (by omega)) fun r11 h11=>?_
   refine Zk (ZA (by simp [Za];omega) (by omega)) ?_
   rw [Zd4 hi (by omega)]
   exact ih (by omega) _ ⟨es++[r11],(Kk Wo es _),by simp;omega,Yp h2 (VU h11)⟩
  ·have a1:((List.range' 0 mem.length).all fun i=>atB Jh mem i&&Zht mem i)=true:=by
    rw [List.all_eq_true]
    intro i hi
    rw [List.mem_range'_1] at hi
    have hil:i < mem.length:=by omega
    rw [Yg _ hil,hm2 _ (List.getElem_mem hil),hm3 i hil];rfl
   have a2:YQ num=true:=by simp only [YQ,decide_eq_true_eq];omega
   simp only [V1,a1,a2,List.all_eq_true.2 h2,Bool.and_true,Bool.true_and,Bool.and_eq_true,decide_eq_true_eq]
   omega
 refine Yj (F:=fun k (s:LL) z=>Zlj k (Za l) 0 E0 E0 num s E0 z) 4 (fun i s=>∃ es:List Int,s=Za es∧es.length≤i∧(∀ x∈es,Jh x=true)∧∀ i (h:i < es.length),Zht es i=true) (by omega) (fun k i s hi hj ih=>?_) _ ⟨[],rfl,by simp,by simp,by simp⟩
 obtain ⟨es,rfl,h1,h2,h3⟩:=hj
 show Ret _ (Zlj (k+1) _ _ _ _ _ _ _ _)
 rw [ZqF]
 refine Zc (Zp l _) fun _ _=>Zc (place _ 4 (by omega) (by omega)) fun r9 h9=>?_
 refine Zl (fun h4=>?_) fun _=>part0 es (by omega) h2 h3
 simp only [CQ] at h4
 refine Zc (Zp l _) fun _ _=>Zc (place _ 4 (by omega) (by omega)) fun r11 h11=>?_
 rw [s79 es (by omega),Option.bind_some,Zd4 hi (by omega)]
 refine Zl (fun h5=>?_) fun _=>ih (by omega) _ ⟨es,rfl,by omega,h2,h3⟩
 refine Zk (ZA (by simp [Z4];omega) (by omega)) ?_
 refine Zk (ZA (by simp [Za];omega) (by omega)) ?_
 refine ih (by omega) _ ⟨es++[r11],(Kk Wo es _),by simp;omega,Yp h2 (VU h11),fun j hj=>?_⟩
 rw [List.length_append,List.length_cons,List.length_nil] at hj
 rw [ZmK (by simpa using hj)]
 by_cases hjl:j < es.length
 ·have:=h3 j hjl
  rw [ZmK hjl] at this
  rw [List.getElem_append_left hjl,List.take_append_of_le_length (by omega)]
  exact this
 ·have e:j=es.length:=by omega
  subst e
  rw [List.getElem_append_right (Nat.le_refl _),List.take_left]
  simpa using h5
theorem s27 (z:Int):Ret (fun r=>∃ cs:List Int,r=Za cs∧cs.length≤4∧Zi1 cs=true) (g27 z):=by
 rw [ZxJ]
 refine Yj (F:=fun k (s:LL) i=>ZlR k z s i) 4 (fun i s=>∃ es:List Int,s=Za es∧es.length≤i∧(∀ x∈es,0≤x∧x < (i:Int))∧VM ltI es=true) (by omega) (fun k i s hi hj ih=>?_) _ ⟨[],rfl,by simp,by simp,rfl⟩
 obtain ⟨es,rfl,h1,h2,h3⟩:=hj
 show Ret _ (ZlR (k+1) _ _ _)
 rw [ZpT]
 refine Zl (fun h4=>?_) fun h4=>Zg ⟨es,rfl,by omega,?_⟩
 ·simp only [CQ] at h4
  have hw:IntKind.wrap .u64 (i:Int)=i:=JL (by omega) (by omega)
  rw [hw]
  refine Zk (by omega) (Zc (place _ 2 (by omega) (by omega)) fun r3 _=>?_)
  rw [Zd4 hi (by omega)]
  refine Zl (fun _=>?_) fun _=>ih (by omega) _ ⟨es,rfl,by omega,fun x hx=>by have:=h2 x hx;omega,h3⟩
  refine Zk (ZA (by simp [Za];omega) (by omega)) (ih (by omega) _ ⟨es++[(i:Int)],(Kk Wo es _),by simp;omega,fun x hx=>?_,ZkV h3 fun h=>?_⟩)
  ·rw [List.mem_append,List.mem_singleton] at hx
   rcases hx with hx | rfl
   ·have:=h2 x hx;omega
   ·omega
  ·have:=h2 _ (List.getElem_mem (show es.length-1 < es.length by omega))
   rw [ltI,decide_eq_true_eq];omega
 ·rw [Zi1,h3,Bool.and_true,List.all_eq_true]
  intro x hx
  have:=h2 x hx
  exact VU ⟨by omega,by omega⟩
theorem s77 (a b c:Int):Ret (fun r=>∃ i:Id,r=(i.core,i.op,i.part)∧VA i=true) (g77 a b c):=by
 rw [Zvj]
 refine Zc (place a 4 (by omega) (by omega)) fun x hx=>Zc (place b 12 (by omega) (by omega)) fun y hy=>Zc (place c 3 (by omega) (by omega)) fun z hz=>?_
 have e:iop .add .i64 1 y=1+y:=JH (by omega) (by omega)
 rw [e]
 exact Zg ⟨⟨x,1+y,z⟩,rfl,by simp only [VA,decide_eq_true_eq];omega⟩
theorem s26 (l:List Int) (hn:l.length < 2^63):Ret (fun r=>∃ is:List Id,r=Zb is∧is.length≤8∧∀ i∈is,VA i=true) (g26 (Za l)):=by
 rw [ZvK]
 refine Km (F:=fun k (s:LL) i=>ZiI k (Za l) s i) (n:=l.length) (fun i s=>∃ es:List Id,s=Zb es∧es.length≤8∧∀ i∈es,VA i=true) hn (fun k i s hi hj ih=>?_) (fun k s hj=>?_) _ ⟨[],rfl,by simp,by simp⟩
 ·obtain ⟨es,rfl,h1,h2⟩:=hj
  show Ret _ (ZiI (k+1) _ _ _)
  rw [Zld,Z4,ZU,if_pos (Z6 hi)]
  refine Zl (fun h4=>?_) fun _=>Zg ⟨es,rfl,h1,h2⟩
  simp only [CQ] at h4
  refine Ze (Z3 hi _) (Ze (Z3 hi _) (Zk (by omega) (Ze (Z3 hi _) (Zk (by omega) ?_))))
  refine Zc (s77 _ _ _) fun r ⟨x,hx,hxo⟩=>?_
  subst hx
  rw [s78 es (by omega),Option.bind_some,Z1 hi hn]
  refine Zl (fun _=>?_) fun _=>ih _ ⟨es,rfl,h1,h2⟩
  exact Zk (ZA (by rw [ZU];simp;omega) (by omega)) (ih _ ⟨es++[x],by simp [Zb,idc],by simp;omega,Yp h2 hxo⟩)
 ·obtain ⟨es,rfl,h1,h2⟩:=hj
  show Ret _ (ZiI (k+1) _ _ _)
  rw [Zld,Z4,if_neg (Z5 (Nat.le_refl _))]
  exact Zg ⟨es,rfl,h1,h2⟩
structure StS (s:Jv):Prop where
 ok:YC s=true
 slots:s.slots.length≤12
 spath:∀ x∈s.slots,x.node.path.length≤20
 pend:s.pending.length≤3
 psrc:∀ q∈s.pending,q.src.path.length≤20
 marks:s.marks.length≤3
 answers:s.answers.length≤3
 entries:s.entries.length≤3
 epath:∀ e∈s.entries,e.node.path.length≤20
 commits:s.commits.length≤3
theorem StG.short {f:List ZD} {n:Nat} (hf:FOk f n) {s:Jv} (h:StG f s):StS s:=⟨h.ok,by have:=h.slots.len;omega,(h.few hf).path,h.pend,fun q hq=>(h.psrc q hq).1,h.marks,h.answers,h.entries,h.epath,h.commits⟩
theorem StS.fits {s:Jv} (h:StS s):s.Fits:=by
 have h1:=h.slots;have h2:=h.pend;have h3:=h.marks;have h4:=h.answers;have h5:=h.entries;have h6:=h.commits
 exact ⟨by omega,by omega,by omega,by omega,by omega,by omega,fun x hx=>by have:=h.spath x hx;omega,fun x hx=>by have:=h.psrc x hx;omega,fun x hx=>by have:=h.epath x hx;omega⟩
theorem Vv:StS Zq:=⟨by kernel_rfl,by simp [Zq],by simp [Zq],by simp [Zq],by simp [Zq],by simp [Zq],by simp [Zq],by simp [Zq],by simp [Zq],by simp [Zq]⟩
theorem VD:VwG ZQ:=⟨by kernel_rfl,by simp [ZQ],by simp [ZQ]⟩
theorem VwG.fits {v:Vu} (h:VwG v):v.Fits:=⟨by have:=h.members;omega,by have:=h.owners;omega⟩
def Zm6 (r:Jl):Prop:=Zel r.state∧Zel r.proposal
structure RpS (r:Jl):Prop where
 core:Jh r.core=true
 view:VwG r.view
 state:StS r.state
 next:VwG r.next
 proposal:StS r.proposal
theorem RpS.ok {r:Jl} (h:RpS r):Zfd r=true:=by simp only [Zfd,h.core,h.view.ok,h.state.ok,h.next.ok,h.proposal.ok,Bool.and_self]
theorem Wu:RpS Zu:=⟨by kernel_rfl,VD,Vv,VD,Vv⟩
abbrev RpT:=Int×Int×LL×LL×LL×LL×LL×LL×LL×LL×Bool×Int×LL×LL×LL×LL×LL×LL×LL×LL
def rpV (r:Jl):RpT:=(r.core,r.view.number,Za r.view.members,Za r.view.owners,r.state.slots.map Zh,r.state.pending.map Zt,r.state.marks.map Zi,r.state.answers.map Zy,r.state.entries.map Zf,Zb r.state.commits,r.ready,r.next.number,Za r.next.members,Za r.next.owners,r.proposal.slots.map Zh,r.proposal.pending.map Zt,r.proposal.marks.map Zi,r.proposal.answers.map Zy,r.proposal.entries.map Zf,Zb r.proposal.commits)
theorem Ju:Zel Zq:=fun q hq=>by cases hq
theorem s28 (l:List Int) (f:List ZD) (n:Nat) (hf:FOk f n) (hn:n≤60):Ret (fun r=>∃ p:Jl,r=rpV p∧RpS p∧(RL l→Zm6 p)) (g28 (Za l) (f.map Zf)):=by
 rw [ZxZ]
 refine Zc (Zp l _) fun _ _=>Zc (place _ 4 (by omega) (by omega)) fun c hc=>?_
 refine Zc (s24 l 1 (by omega)) fun r ⟨l1,hr,_⟩=>?_
 subst hr
 refine Zc (s29 l1) fun r ⟨v,hr,hv⟩=>?_
 subst hr
 refine Zc (s24 l 2 (by omega)) fun r ⟨l2,hr,_,q2⟩=>?_
 subst hr
 refine Zc (s30 l2 f n hf hn c) fun r ⟨s,hr,hs,hcs⟩=>?_
 subst hr
 refine Zc (Zp l _) fun _ _=>Zc (place _ 2 (by omega) (by omega)) fun _ _=>?_
 refine Zl (fun _=>?_) fun _=>Zg ⟨⟨c,v,s,false,ZQ,Zq⟩,rfl,⟨VU hc,hv,hs.short hf,VD,Vv⟩,fun h=>⟨hcs (q2 h),Ju⟩⟩
 refine Zc (s24 l 4 (by omega)) fun r ⟨l1,hr,_⟩=>?_
 subst hr
 refine Zc (s29 l1) fun r ⟨v2,hr,hv2⟩=>?_
 subst hr
 refine Zc (s24 l 5 (by omega)) fun r ⟨l2,hr,_,q3⟩=>?_
 subst hr
 refine Zc (s30 l2 f n hf hn c) fun r ⟨s2,hr,hs2,hcs2⟩=>?_
 subst hr
 exact Zg ⟨⟨c,v,s,true,v2,s2⟩,rfl,⟨VU hc,hv,hs.short hf,hv2,hs2.short hf⟩,fun h=>⟨hcs (q2 h),hcs2 (q3 h)⟩⟩
def ZmA (m:Msg):Prop:=(∀ z∈Yt m.req.call,Rng z)∧Zel m.state∧Zm6 m.report
theorem Yh:∀ z∈Yt Jg.call,Rng z:=by
 intro z hz
 simp only [Yt,Jg,ZqT,List.mem_cons,List.not_mem_nil,or_false] at hz
 have:z=0:=by omega
 subst this
 exact ⟨by decide,by decide⟩
theorem Jd:Zm6 Zu:=⟨Ju,Ju⟩
structure MsS (m:Msg):Prop where
 req:m.req.src.path.length≤20
 ids:m.ids.length≤8
 nodes:m.nodes.length≤3
 node:∀ x∈m.nodes,x.path.length≤20
 cores:m.cores.length≤4
 moves:m.moves.length≤3
 next:VwG m.next
 state:StS m.state
 report:RpS m.report
theorem RpS.fits {r:Jl} (h:RpS r):r.Fits:=⟨h.view.fits,h.state.fits,h.next.fits,h.proposal.fits⟩
theorem MsS.fits {m:Msg} (h:MsS m):m.Fits:=⟨by have:=h.req;omega,by have:=h.ids;omega,by have:=h.nodes;omega,fun x hx=>by have:=h.node x hx;omega,by have:=h.cores;omega,by have:=h.moves;omega,h.next.fits,h.state.fits,h.report.fits⟩
theorem JB (m:Msg) (k:Nat) (hk:m.kind=(k:Int)) (h1:1≤k) (h2:k≤17) (hv:0≤m.view∧m.view < 70) (hf:0≤m.frm∧m.frm < 4) (ht:0≤m.to∧m.to < 4) (hfs:(kf k).all (ZK m)=true) (hr:rest k m=true):Ka m=true:=by
 have e1:kindOk m.kind=true:=by simp only [kindOk,decide_eq_true_eq];omega
 have e2:YQ m.view=true:=by simp only [YQ,decide_eq_true_eq];omega
 have e3:m.kind.toNat=k:=by omega
 simp only [Ka,headOk,e1,e2,VU hf,VU ht,e3,hfs,hr,Bool.and_self]
theorem ZAG (l:List Int) (f:List ZD) (n:Nat) (hf:FOk f n) (hn:n≤60) (m:Msg) :
  Ret (fun r=>∃ ns:List J4,r=Zrh { m with nodes:=ns }∧ns.length≤3∧(∀ x∈ns,ZR x=true)∧∀ x∈ns,x.path.length≤20) (Zls ZB (Za l) (f.map Zf) 0 0 0 0 0 0 0 0 0 0 0 false 0 0 0 0 0 0 0 0 0 0 0 0 0 0 0 0 0 0 0 0 E0 0 0 0 0 0 0 false E0 E0 E0 E0 0 0 E0 E0 E0 E0 E0 E0 E0 E0 0 0 E0 E0 E0 E0 E0 E0 E0 E0 false 0 E0 E0 E0 E0 E0 E0 E0 E0 m.kind m.view m.frm m.to m.round m.region m.slot m.op.core m.op.op m.op.part m.err m.settled m.req.id.core m.req.id.op m.req.id.part m.req.call.kind m.req.call.slot m.req.call.dest m.req.call.core m.req.call.mask m.req.call.object m.req.call.bits m.req.call.level m.req.call.offset m.req.call.count m.req.call.index m.req.call.addr m.req.region m.req.width m.req.src.id.core m.req.src.id.op m.req.src.id.part (Zb m.req.src.path) m.req.src.cap.kind m.req.src.cap.base m.req.src.cap.bits m.req.src.cap.rights m.req.src.cap.width m.req.src.cap.level m.req.src.cap.device (Zb m.ids) E0 (Za m.cores) (m.moves.map ZZ) m.base m.next.number (Za m.next.members) (Za m.next.owners) (m.state.slots.map Zh) (m.state.pending.map Zt) (m.state.marks.map Zi) (m.state.answers.map Zy) (m.state.entries.map Zf) (Zb m.state.commits) m.report.core m.report.view.number (Za m.report.view.members) (Za m.report.view.owners) (m.report.state.slots.map Zh) (m.report.state.pending.map Zt) (m.report.state.marks.map Zi) (m.report.state.answers.map Zy) (m.report.state.entries.map Zf) (Zb m.report.state.commits) m.report.ready m.report.next.number (Za m.report.next.members) (Za m.report.next.owners) (m.report.proposal.slots.map Zh) (m.report.proposal.pending.map Zt) (m.report.proposal.marks.map Zi) (m.report.proposal.answers.map Zy) (m.report.proposal.entries.map Zf) (Zb m.report.proposal.commits) 0):=by
 have hfl:=hf.len
 refine Yj (F:=fun k (s:LL) z=>Zls k (Za l) (f.map Zf) 0 0 0 0 0 0 0 0 0 0 0 false 0 0 0 0 0 0 0 0 0 0 0 0 0 0 0 0 0 0 0 0 E0 0 0 0 0 0 0 false E0 E0 E0 E0 0 0 E0 E0 E0 E0 E0 E0 E0 E0 0 0 E0 E0 E0 E0 E0 E0 E0 E0 false 0 E0 E0 E0 E0 E0 E0 E0 E0 m.kind m.view m.frm m.to m.round m.region m.slot m.op.core m.op.op m.op.part m.err m.settled m.req.id.core m.req.id.op m.req.id.part m.req.call.kind m.req.call.slot m.req.call.dest m.req.call.core m.req.call.mask m.req.call.object m.req.call.bits m.req.call.level m.req.call.offset m.req.call.count m.req.call.index m.req.call.addr m.req.region m.req.width m.req.src.id.core m.req.src.id.op m.req.src.id.part (Zb m.req.src.path) m.req.src.cap.kind m.req.src.cap.base m.req.src.cap.bits m.req.src.cap.rights m.req.src.cap.width m.req.src.cap.level m.req.src.cap.device (Zb m.ids) s (Za m.cores) (m.moves.map ZZ) m.base m.next.number (Za m.next.members) (Za m.next.owners) (m.state.slots.map Zh) (m.state.pending.map Zt) (m.state.marks.map Zi) (m.state.answers.map Zy) (m.state.entries.map Zf) (Zb m.state.commits) m.report.core m.report.view.number (Za m.report.view.members) (Za m.report.view.owners) (m.report.state.slots.map Zh) (m.report.state.pending.map Zt) (m.report.state.marks.map Zi) (m.report.state.answers.map Zy) (m.report.state.entries.map Zf) (Zb m.report.state.commits) m.report.ready m.report.next.number (Za m.report.next.members) (Za m.report.next.owners) (m.report.proposal.slots.map Zh) (m.report.proposal.pending.map Zt) (m.report.proposal.marks.map Zi) (m.report.proposal.answers.map Zy) (m.report.proposal.entries.map Zf) (Zb m.report.proposal.commits) z) 3 (fun i s=>∃ es:List J4,s=es.map ZT∧es.length≤i∧(∀ x∈es,ZR x=true)∧∀ x∈es,x.path.length≤20) (by omega) (fun k i s hi hj ih=>?_) _ ⟨[],rfl,by simp,by simp,by simp⟩
 obtain ⟨es,rfl,h1,h2,h3⟩:=hj
 refine Ze (ZpC ..) ?_
 refine Zc (Zp l _) fun _ _=>Zc (place _ 3 (by omega) (by omega)) fun r16 h16=>?_
 refine Zl (fun h4=>?_) fun _=>Zg ⟨es,rfl,by omega,h2,h3⟩
 refine Zl (fun h5=>?_) fun _=>Zg ⟨es,rfl,by omega,h2,h3⟩
 simp only [CQ,List.length_map] at h4 h5
 have hif:i < f.length:=by omega
 refine Zk (ZA (by simp;omega) (by omega)) ?_
 refine Ze (Zo hif _) ?_
 have hno:=(hf.all _ (List.getElem_mem hif)).ok
 have hp:=(J8 hno).2.2.1
 refine Jc (s25 f[i].node (by omega)) ?_
 refine Zk (ZA (by simp;omega) (by omega)) ?_
 refine Ze (congrArg (fun z=>Zls k (Za l) (f.map Zf) 0 0 0 0 0 0 0 0 0 0 0 false 0 0 0 0 0 0 0 0 0 0 0 0 0 0 0 0 0 0 0 0 E0 0 0 0 0 0 0 false E0 E0 E0 E0 0 0 E0 E0 E0 E0 E0 E0 E0 E0 0 0 E0 E0 E0 E0 E0 E0 E0 E0 false 0 E0 E0 E0 E0 E0 E0 E0 E0 m.kind m.view m.frm m.to m.round m.region m.slot m.op.core m.op.op m.op.part m.err m.settled m.req.id.core m.req.id.op m.req.id.part m.req.call.kind m.req.call.slot m.req.call.dest m.req.call.core m.req.call.mask m.req.call.object m.req.call.bits m.req.call.level m.req.call.offset m.req.call.count m.req.call.index m.req.call.addr m.req.region m.req.width m.req.src.id.core m.req.src.id.op m.req.src.id.part (Zb m.req.src.path) m.req.src.cap.kind m.req.src.cap.base m.req.src.cap.bits m.req.src.cap.rights m.req.src.cap.width m.req.src.cap.level m.req.src.cap.device (Zb m.ids) (es.map ZT++(E0++[ZT f[i].node])) (Za m.cores) (m.moves.map ZZ) m.base m.next.number (Za m.next.members) (Za m.next.owners) (m.state.slots.map Zh) (m.state.pending.map Zt) (m.state.marks.map Zi) (m.state.answers.map Zy) (m.state.entries.map Zf) (Zb m.state.commits) m.report.core m.report.view.number (Za m.report.view.members) (Za m.report.view.owners) (m.report.state.slots.map Zh) (m.report.state.pending.map Zt) (m.report.state.marks.map Zi) (m.report.state.answers.map Zy) (m.report.state.entries.map Zf) (Zb m.report.state.commits) m.report.ready m.report.next.number (Za m.report.next.members) (Za m.report.next.owners) (m.report.proposal.slots.map Zh) (m.report.proposal.pending.map Zt) (m.report.proposal.marks.map Zi) (m.report.proposal.answers.map Zy) (m.report.proposal.entries.map Zf) (Zb m.report.proposal.commits) z) (Zd4 hi (by omega))) ?_
 exact ih (by omega) _ ⟨es++[f[i].node],(Kk ZT es f[i].node),by simp;omega,Yp h2 hno,Yp h3 (by omega)⟩
theorem ZAj (l:List Int) (m:Msg) :
  Ret (fun r=>∃ ns:List Zff,r=Zrh { m with moves:=ns }∧ns.length≤3∧(∀ x∈ns,V3 x=true)) (ZlC ZB (Za l) 0 0 0 0 0 0 0 0 0 0 0 false 0 0 0 0 0 0 0 0 0 0 0 0 0 0 0 0 0 0 0 0 E0 0 0 0 0 0 0 false E0 E0 E0 E0 0 0 E0 E0 E0 E0 E0 E0 E0 E0 0 0 E0 E0 E0 E0 E0 E0 E0 E0 false 0 E0 E0 E0 E0 E0 E0 E0 E0 m.kind m.view m.frm m.to m.round m.region m.slot m.op.core m.op.op m.op.part m.err m.settled m.req.id.core m.req.id.op m.req.id.part m.req.call.kind m.req.call.slot m.req.call.dest m.req.call.core m.req.call.mask m.req.call.object m.req.call.bits m.req.call.level m.req.call.offset m.req.call.count m.req.call.index m.req.call.addr m.req.region m.req.width m.req.src.id.core m.req.src.id.op m.req.src.id.part (Zb m.req.src.path) m.req.src.cap.kind m.req.src.cap.base m.req.src.cap.bits m.req.src.cap.rights m.req.src.cap.width m.req.src.cap.level m.req.src.cap.device (Zb m.ids) (m.nodes.map ZT) (Za m.cores) E0 m.base m.next.number (Za m.next.members) (Za m.next.owners) (m.state.slots.map Zh) (m.state.pending.map Zt) (m.state.marks.map Zi) (m.state.answers.map Zy) (m.state.entries.map Zf) (Zb m.state.commits) m.report.core m.report.view.number (Za m.report.view.members) (Za m.report.view.owners) (m.report.state.slots.map Zh) (m.report.state.pending.map Zt) (m.report.state.marks.map Zi) (m.report.state.answers.map Zy) (m.report.state.entries.map Zf) (Zb m.report.state.commits) m.report.ready m.report.next.number (Za m.report.next.members) (Za m.report.next.owners) (m.report.proposal.slots.map Zh) (m.report.proposal.pending.map Zt) (m.report.proposal.marks.map Zi) (m.report.proposal.answers.map Zy) (m.report.proposal.entries.map Zf) (Zb m.report.proposal.commits) 0):=by
 refine Yj (F:=fun k (s:LL) z=>ZlC k (Za l) 0 0 0 0 0 0 0 0 0 0 0 false 0 0 0 0 0 0 0 0 0 0 0 0 0 0 0 0 0 0 0 0 E0 0 0 0 0 0 0 false E0 E0 E0 E0 0 0 E0 E0 E0 E0 E0 E0 E0 E0 0 0 E0 E0 E0 E0 E0 E0 E0 E0 false 0 E0 E0 E0 E0 E0 E0 E0 E0 m.kind m.view m.frm m.to m.round m.region m.slot m.op.core m.op.op m.op.part m.err m.settled m.req.id.core m.req.id.op m.req.id.part m.req.call.kind m.req.call.slot m.req.call.dest m.req.call.core m.req.call.mask m.req.call.object m.req.call.bits m.req.call.level m.req.call.offset m.req.call.count m.req.call.index m.req.call.addr m.req.region m.req.width m.req.src.id.core m.req.src.id.op m.req.src.id.part (Zb m.req.src.path) m.req.src.cap.kind m.req.src.cap.base m.req.src.cap.bits m.req.src.cap.rights m.req.src.cap.width m.req.src.cap.level m.req.src.cap.device (Zb m.ids) (m.nodes.map ZT) (Za m.cores) s m.base m.next.number (Za m.next.members) (Za m.next.owners) (m.state.slots.map Zh) (m.state.pending.map Zt) (m.state.marks.map Zi) (m.state.answers.map Zy) (m.state.entries.map Zf) (Zb m.state.commits) m.report.core m.report.view.number (Za m.report.view.members) (Za m.report.view.owners) (m.report.state.slots.map Zh) (m.report.state.pending.map Zt) (m.report.state.marks.map Zi) (m.report.state.answers.map Zy) (m.report.state.entries.map Zf) (Zb m.report.state.commits) m.report.ready m.report.next.number (Za m.report.next.members) (Za m.report.next.owners) (m.report.proposal.slots.map Zh) (m.report.proposal.pending.map Zt) (m.report.proposal.marks.map Zi) (m.report.proposal.answers.map Zy) (m.report.proposal.entries.map Zf) (Zb m.report.proposal.commits) z) 3 (fun i s=>∃ es:List Zff,s=es.map ZZ∧es.length≤i∧(∀ x∈es,V3 x=true)) (by omega) (fun k i s hi hj ih=>?_) _ ⟨[],rfl,by simp,by simp⟩
 obtain ⟨es,rfl,h1,h2⟩:=hj
 refine Ze (ZqE ..) ?_
 refine Zc (Zp l _) fun _ _=>Zc (place _ 3 (by omega) (by omega)) fun r16 h16=>?_
 refine Zl (fun h4=>?_) fun _=>Zg ⟨es,rfl,by omega,h2⟩
 simp only [CQ] at h4
 refine Zk (ZA (by simp;omega) (by omega)) ?_
 refine Zc (Zp l _) fun _ _=>Zc (place _ 3 (by omega) (by omega)) fun a ha=>?_
 refine Zc (Zp l _) fun _ _=>Zc (place _ 4 (by omega) (by omega)) fun b hb=>?_
 refine Zk (ZA (by simp;omega) (by omega)) ?_
 refine Ze (congrArg (fun z=>ZlC k (Za l) 0 0 0 0 0 0 0 0 0 0 0 false 0 0 0 0 0 0 0 0 0 0 0 0 0 0 0 0 0 0 0 0 E0 0 0 0 0 0 0 false E0 E0 E0 E0 0 0 E0 E0 E0 E0 E0 E0 E0 E0 0 0 E0 E0 E0 E0 E0 E0 E0 E0 false 0 E0 E0 E0 E0 E0 E0 E0 E0 m.kind m.view m.frm m.to m.round m.region m.slot m.op.core m.op.op m.op.part m.err m.settled m.req.id.core m.req.id.op m.req.id.part m.req.call.kind m.req.call.slot m.req.call.dest m.req.call.core m.req.call.mask m.req.call.object m.req.call.bits m.req.call.level m.req.call.offset m.req.call.count m.req.call.index m.req.call.addr m.req.region m.req.width m.req.src.id.core m.req.src.id.op m.req.src.id.part (Zb m.req.src.path) m.req.src.cap.kind m.req.src.cap.base m.req.src.cap.bits m.req.src.cap.rights m.req.src.cap.width m.req.src.cap.level m.req.src.cap.device (Zb m.ids) (m.nodes.map ZT) (Za m.cores) (es.map ZZ++(E0++[ZZ ⟨a,b⟩])) m.base m.next.number (Za m.next.members) (Za m.next.owners) (m.state.slots.map Zh) (m.state.pending.map Zt) (m.state.marks.map Zi) (m.state.answers.map Zy) (m.state.entries.map Zf) (Zb m.state.commits) m.report.core m.report.view.number (Za m.report.view.members) (Za m.report.view.owners) (m.report.state.slots.map Zh) (m.report.state.pending.map Zt) (m.report.state.marks.map Zi) (m.report.state.answers.map Zy) (m.report.state.entries.map Zf) (Zb m.report.state.commits) m.report.ready m.report.next.number (Za m.report.next.members) (Za m.report.next.owners) (m.report.proposal.slots.map Zh) (m.report.proposal.pending.map Zt) (m.report.proposal.marks.map Zi) (m.report.proposal.answers.map Zy) (m.report.proposal.entries.map Zf) (Zb m.report.proposal.commits) z) (Zd4 hi (by omega))) ?_
 refine ih (by omega) _ ⟨es++[⟨a,b⟩],(Kk ZZ es ⟨a,b⟩),by simp;omega,Yp h2 ?_⟩
 simp only [V3,VU hb,Yc,Bool.and_true,decide_eq_true_eq]
 omega
theorem s10 (kind:Int) (l:List Int) (hl:l.length < 2^63) (f:List ZD) (n:Nat) (hf:FOk f n) (hn:n≤60):Ret (fun r=>∃ m:Msg,r=Zrh m∧Ka m=true∧MsS m∧(RL l→ZmA m)) (g10 kind (Za l) (f.map Zf)):=by
 rw [Zvd]
 unfold m10
 refine Zc (place _ 17 (by omega) (by omega)) fun r3 h3=>?_
 obtain ⟨kd,hkd⟩:∃ kd,kd=1+r3:=⟨_,rfl⟩
 have ek:iop .add .i64 1 r3=kd:=by rw [JH (by omega) (by omega),hkd]
 rw [ek]
 refine Zc (Zp l _) fun _ _=>Zc (place _ 70 (by omega) (by omega)) fun v hv=>?_
 refine Zc (Zp l _) fun _ _=>Zc (place _ 4 (by omega) (by omega)) fun fr hfr=>?_
 refine Zc (Zp l _) fun _ _=>Zc (place _ 4 (by omega) (by omega)) fun to hto=>?_
 refine Zc (Zp l _) fun _ _=>Zc (s22 _) fun r ⟨i,hr,hio⟩=>?_
 subst hr
 have hfl:=hf.len
 refine Zl (fun h4=>?caA) fun _=>?caB
 case' caA=>
  simp only [CQ,List.length_map] at h4
  rw [List.length_map]
  refine Zc (Zp l _) fun _ _=>Zc (place _ _ (by omega) (by omega)) fun z hz=>?_
  have hzl:z.toNat < f.length:=by omega
  refine KR hz.1 hzl ?_
  have hn0:=(hf.all _ (List.getElem_mem hzl)).ok
  generalize f[z.toNat]=e at hn0
  let nd:J4:=e.node
  have hno:ZR nd=true:=hn0
 case' caB=>
  let nd:J4:=⟨i,[],⟨2,4096,12,3,0,0,false⟩⟩
  have hno:ZR nd=true:=Zos _ _ (by have:=hio.ok;rw [ZdQ,Bool.and_eq_true] at this;exact this.1) (by kernel_rfl)
 all_goals
  have hpa:nd.path.length≤20:=by have:=(J8 hno).2.2.1;omega
  have hk17:kd=1∨kd=2∨kd=3∨kd=4∨kd=5∨kd=6∨kd=7∨kd=8∨kd=9∨kd=10∨kd=11∨kd=12∨kd=13∨kd=14∨kd=15∨kd=16∨kd=17:=by omega
  rcases hk17 with rfl | rfl | rfl | rfl | rfl | rfl | rfl | rfl | rfl | rfl | rfl | rfl | rfl | rfl | rfl | rfl | rfl
  ·refine Ze (if_pos (by kernel_rfl)) (Zc (Zp l _) fun _ _=>Zc (place _ 3 (by omega) (by omega)) fun rg hrg=>?_)
   have hrg':Yc rg=true:=by simp only [Yc,decide_eq_true_eq];omega
   refine Ze (if_neg (Zr (by kernel_rfl))) ?_
   refine Ze (if_pos (by kernel_rfl)) ?_
   refine Zc (s24 l 5 (by omega)) fun r ⟨l1,hr,hl1,ql1⟩=>?_
   subst hr
   refine Zc (s23 l1 nd hno hpa) fun r ⟨q,hr,⟨hqp,_⟩,hqo,hqc⟩=>?_
   subst hr
   exact Zg ⟨⟨1,v,fr,to,0,rg,0,zid,0,false,q,[],[],[],[],0,ZQ,Zq,Zu⟩,rfl,JB ⟨1,v,fr,to,0,rg,0,zid,0,false,q,[],[],[],[],0,ZQ,Zq,Zu⟩ 1 rfl (by decide) (by decide) hv hfr hto (by simp only [kf,List.all_cons,List.all_nil,ZK,decide_true,Bool.and_true,Bool.true_and,Bool.or_true,Bool.true_or,List.length_cons,List.length_nil,ne_eq,not_true_eq_false,not_false_eq_true,hrg',hqo]) (by kernel_rfl),⟨hqp,by simp,by simp,by simp,by simp,by simp,VD,Vv,Wu⟩,fun h=>⟨hqc (ql1 h),Ju,Jd⟩⟩
  ·refine Ze (if_pos (by kernel_rfl)) (Zc (Zp l _) fun _ _=>Zc (place _ 3 (by omega) (by omega)) fun rg hrg=>?_)
   have hrg':Yc rg=true:=by simp only [Yc,decide_eq_true_eq];omega
   refine Ze (if_pos (by kernel_rfl)) (Zc (Zp l _) fun _ _=>Zc (s22 _) fun r ⟨op,hr,hop⟩=>?_)
   subst hr
   refine Ze (if_neg (Zr (by kernel_rfl))) ?_
   refine Ze (if_pos (by kernel_rfl)) ?_
   refine Zc (Zp l 6) fun _ _=>Zc (place _ 20 (by omega) (by omega)) fun er her=>?_
   have her':Zd1 er=true:=by simp only [Zd1,decide_eq_true_eq];omega
   refine Zc (Zp l 7) fun _ _=>Zc (place _ 2 (by omega) (by omega)) fun st hst=>?_
   refine Zku (ZAG l f n hf hn ⟨2,v,fr,to,0,rg,0,op,er,(cop .eql st 1),Jg,[],[],[],[],0,ZQ,Zq,Zu⟩) fun r ⟨ns,hr,hn1,hn2,hn3⟩=>?_
   exact ⟨⟨2,v,fr,to,0,rg,0,op,er,(cop .eql st 1),Jg,[],ns,[],[],0,ZQ,Zq,Zu⟩,hr,JB ⟨2,v,fr,to,0,rg,0,op,er,(cop .eql st 1),Jg,[],ns,[],[],0,ZQ,Zq,Zu⟩ 2 rfl (by decide) (by decide) hv hfr hto (by simp only [kf,List.all_cons,List.all_nil,ZK,decide_true,Bool.and_true,Bool.true_and,Bool.or_true,Bool.true_or,List.length_cons,List.length_nil,ne_eq,not_true_eq_false,not_false_eq_true,hrg',hop.ok,her',List.all_eq_true.2 hn2,show ns.length≤8 by omega,show ¬ ((2:Int)=4) by decide]) (by kernel_rfl),⟨by simp [Jg,ZS],by simp,hn1,hn3,by simp,by simp,VD,Vv,Wu⟩,fun h=>⟨Yh,Ju,Jd⟩⟩
  ·refine Ze (if_pos (by kernel_rfl)) (Zc (Zp l _) fun _ _=>Zc (place _ 3 (by omega) (by omega)) fun rg hrg=>?_)
   have hrg':Yc rg=true:=by simp only [Yc,decide_eq_true_eq];omega
   refine Ze (if_pos (by kernel_rfl)) (Zc (Zp l _) fun _ _=>Zc (s22 _) fun r ⟨op,hr,hop⟩=>?_)
   subst hr
   refine Ze (if_neg (Zr (by kernel_rfl))) ?_
   refine Ze (if_neg (Zr (by kernel_rfl))) ?_
   refine Ze (if_neg (Zr (by kernel_rfl))) ?_
   refine Ze (if_neg (Zr (by kernel_rfl))) ?_
   refine Ze (if_neg (Zr (by kernel_rfl))) ?_
   refine Ze (if_neg (Zr (by kernel_rfl))) ?_
   refine Ze (if_neg (Zr (by kernel_rfl))) ?_
   refine Ze (if_neg (Zr (by kernel_rfl))) ?_
   refine Ze (if_neg (Zr (by kernel_rfl))) ?_
   exact Zg ⟨⟨3,v,fr,to,0,rg,0,op,0,false,Jg,[],[],[],[],0,ZQ,Zq,Zu⟩,rfl,JB ⟨3,v,fr,to,0,rg,0,op,0,false,Jg,[],[],[],[],0,ZQ,Zq,Zu⟩ 3 rfl (by decide) (by decide) hv hfr hto (by simp only [kf,List.all_cons,List.all_nil,ZK,decide_true,Bool.and_true,Bool.true_and,Bool.or_true,Bool.true_or,List.length_cons,List.length_nil,ne_eq,not_true_eq_false,not_false_eq_true,hrg',hop.ok]) (by kernel_rfl),⟨by simp [Jg,ZS],by simp,by simp,by simp,by simp,by simp,VD,Vv,Wu⟩,fun h=>⟨Yh,Ju,Jd⟩⟩
  ·refine Ze (if_pos (by kernel_rfl)) (Zc (Zp l _) fun _ _=>Zc (place _ 3 (by omega) (by omega)) fun rg hrg=>?_)
   have hrg':Yc rg=true:=by simp only [Yc,decide_eq_true_eq];omega
   refine Ze (if_pos (by kernel_rfl)) (Zc (Zp l _) fun _ _=>Zc (s22 _) fun r ⟨op,hr,hop⟩=>?_)
   subst hr
   refine Ze (if_neg (Zr (by kernel_rfl))) ?_
   refine Ze (if_neg (Zr (by kernel_rfl))) ?_
   refine Ze (if_pos (by kernel_rfl)) ?_
   refine Zc (Zp l 6) fun _ _=>Zc (place _ 12 (by omega) (by omega)) fun sl hsl=>?_
   have hsl':ZbU sl=true:=by simp only [ZbU,decide_eq_true_eq];omega
   refine Jc (s25 nd (Nat.le_trans hpa (by decide))) ?_
   exact Zg ⟨⟨4,v,fr,to,0,rg,sl,op,0,false,Jg,[],[nd],[],[],0,ZQ,Zq,Zu⟩,rfl,JB ⟨4,v,fr,to,0,rg,sl,op,0,false,Jg,[],[nd],[],[],0,ZQ,Zq,Zu⟩ 4 rfl (by decide) (by decide) hv hfr hto (by simp only [kf,List.all_cons,List.all_nil,ZK,decide_true,Bool.and_true,Bool.true_and,Bool.or_true,Bool.true_or,List.length_cons,List.length_nil,ne_eq,not_true_eq_false,not_false_eq_true,hrg',hop.ok,hsl',hno];rfl) (by kernel_rfl),⟨by simp [Jg,ZS],by simp,by simp,by intro x hx;rw [List.mem_singleton] at hx;subst hx;exact hpa,by simp,by simp,VD,Vv,Wu⟩,fun h=>⟨Yh,Ju,Jd⟩⟩
  ·refine Ze (if_pos (by kernel_rfl)) (Zc (Zp l _) fun _ _=>Zc (place _ 3 (by omega) (by omega)) fun rg hrg=>?_)
   have hrg':Yc rg=true:=by simp only [Yc,decide_eq_true_eq];omega
   refine Ze (if_pos (by kernel_rfl)) (Zc (Zp l _) fun _ _=>Zc (s22 _) fun r ⟨op,hr,hop⟩=>?_)
   subst hr
   refine Ze (if_neg (Zr (by kernel_rfl))) ?_
   refine Ze (if_neg (Zr (by kernel_rfl))) ?_
   refine Ze (if_neg (Zr (by kernel_rfl))) ?_
   refine Ze (if_pos (by kernel_rfl)) ?_
   refine Zc (Zp l 6) fun _ _=>Zc (place _ 20 (by omega) (by omega)) fun er her=>?_
   have her':Zd1 er=true:=by simp only [Zd1,decide_eq_true_eq];omega
   exact Zg ⟨⟨5,v,fr,to,0,rg,0,op,er,false,Jg,[],[],[],[],0,ZQ,Zq,Zu⟩,rfl,JB ⟨5,v,fr,to,0,rg,0,op,er,false,Jg,[],[],[],[],0,ZQ,Zq,Zu⟩ 5 rfl (by decide) (by decide) hv hfr hto (by simp only [kf,List.all_cons,List.all_nil,ZK,decide_true,Bool.and_true,Bool.true_and,Bool.or_true,Bool.true_or,List.length_cons,List.length_nil,ne_eq,not_true_eq_false,not_false_eq_true,hrg',hop.ok,her']) (by kernel_rfl),⟨by simp [Jg,ZS],by simp,by simp,by simp,by simp,by simp,VD,Vv,Wu⟩,fun h=>⟨Yh,Ju,Jd⟩⟩
  ·refine Ze (if_pos (by kernel_rfl)) (Zc (Zp l _) fun _ _=>Zc (place _ 3 (by omega) (by omega)) fun rg hrg=>?_)
   have hrg':Yc rg=true:=by simp only [Yc,decide_eq_true_eq];omega
   refine Ze (if_pos (by kernel_rfl)) (Zc (Zp l _) fun _ _=>Zc (s22 _) fun r ⟨op,hr,hop⟩=>?_)
   subst hr
   refine Ze (if_neg (Zr (by kernel_rfl))) ?_
   refine Ze (if_neg (Zr (by kernel_rfl))) ?_
   refine Ze (if_neg (Zr (by kernel_rfl))) ?_
   refine Ze (if_neg (Zr (by kernel_rfl))) ?_
   refine Ze (if_pos (by kernel_rfl)) ?_
   refine Zc (s24 l 6 (by omega)) fun r ⟨l1,hr,hl1,ql1⟩=>?_
   subst hr
   refine Zc (s26 l1 (by omega)) fun r ⟨is,hr,hi1,hi2⟩=>?_
   subst hr
   exact Zg ⟨⟨6,v,fr,to,0,rg,0,op,0,false,Jg,is,[],[],[],0,ZQ,Zq,Zu⟩,rfl,JB ⟨6,v,fr,to,0,rg,0,op,0,false,Jg,is,[],[],[],0,ZQ,Zq,Zu⟩ 6 rfl (by decide) (by decide) hv hfr hto (by simp only [kf,List.all_cons,List.all_nil,ZK,decide_true,Bool.and_true,Bool.true_and,Bool.or_true,Bool.true_or,List.length_cons,List.length_nil,ne_eq,not_true_eq_false,not_false_eq_true,hrg',hop.ok,List.all_eq_true.2 hi2,show is.length≤64 by omega]) (by kernel_rfl),⟨by simp [Jg,ZS],hi1,by simp,by simp,by simp,by simp,VD,Vv,Wu⟩,fun h=>⟨Yh,Ju,Jd⟩⟩
  ·refine Ze (if_pos (by kernel_rfl)) (Zc (Zp l _) fun _ _=>Zc (place _ 3 (by omega) (by omega)) fun rg hrg=>?_)
   have hrg':Yc rg=true:=by simp only [Yc,decide_eq_true_eq];omega
   refine Ze (if_pos (by kernel_rfl)) (Zc (Zp l _) fun _ _=>Zc (s22 _) fun r ⟨op,hr,hop⟩=>?_)
   subst hr
   refine Ze (if_neg (Zr (by kernel_rfl))) ?_
   refine Ze (if_neg (Zr (by kernel_rfl))) ?_
   refine Ze (if_neg (Zr (by kernel_rfl))) ?_
   refine Ze (if_neg (Zr (by kernel_rfl))) ?_
   refine Ze (if_neg (Zr (by kernel_rfl))) ?_
   refine Ze (if_neg (Zr (by kernel_rfl))) ?_
   refine Ze (if_neg (Zr (by kernel_rfl))) ?_
   refine Ze (if_neg (Zr (by kernel_rfl))) ?_
   refine Ze (if_neg (Zr (by kernel_rfl))) ?_
   exact Zg ⟨⟨7,v,fr,to,0,rg,0,op,0,false,Jg,[],[],[],[],0,ZQ,Zq,Zu⟩,rfl,JB ⟨7,v,fr,to,0,rg,0,op,0,false,Jg,[],[],[],[],0,ZQ,Zq,Zu⟩ 7 rfl (by decide) (by decide) hv hfr hto (by simp only [kf,List.all_cons,List.all_nil,ZK,decide_true,Bool.and_true,Bool.true_and,Bool.or_true,Bool.true_or,List.length_cons,List.length_nil,ne_eq,not_true_eq_false,not_false_eq_true,hrg',hop.ok]) (by kernel_rfl),⟨by simp [Jg,ZS],by simp,by simp,by simp,by simp,by simp,VD,Vv,Wu⟩,fun h=>⟨Yh,Ju,Jd⟩⟩
  ·refine Ze (if_pos (by kernel_rfl)) (Zc (Zp l _) fun _ _=>Zc (place _ 3 (by omega) (by omega)) fun rg hrg=>?_)
   have hrg':Yc rg=true:=by simp only [Yc,decide_eq_true_eq];omega
   refine Ze (if_pos (by kernel_rfl)) (Zc (Zp l _) fun _ _=>Zc (s22 _) fun r ⟨op,hr,hop⟩=>?_)
   subst hr
   refine Ze (if_neg (Zr (by kernel_rfl))) ?_
   refine Ze (if_neg (Zr (by kernel_rfl))) ?_
   refine Ze (if_neg (Zr (by kernel_rfl))) ?_
   refine Ze (if_neg (Zr (by kernel_rfl))) ?_
   refine Ze (if_neg (Zr (by kernel_rfl))) ?_
   refine Ze (if_neg (Zr (by kernel_rfl))) ?_
   refine Ze (if_neg (Zr (by kernel_rfl))) ?_
   refine Ze (if_neg (Zr (by kernel_rfl))) ?_
   refine Ze (if_neg (Zr (by kernel_rfl))) ?_
   exact Zg ⟨⟨8,v,fr,to,0,rg,0,op,0,false,Jg,[],[],[],[],0,ZQ,Zq,Zu⟩,rfl,JB ⟨8,v,fr,to,0,rg,0,op,0,false,Jg,[],[],[],[],0,ZQ,Zq,Zu⟩ 8 rfl (by decide) (by decide) hv hfr hto (by simp only [kf,List.all_cons,List.all_nil,ZK,decide_true,Bool.and_true,Bool.true_and,Bool.or_true,Bool.true_or,List.length_cons,List.length_nil,ne_eq,not_true_eq_false,not_false_eq_true,hrg',hop.ok]) (by kernel_rfl),⟨by simp [Jg,ZS],by simp,by simp,by simp,by simp,by simp,VD,Vv,Wu⟩,fun h=>⟨Yh,Ju,Jd⟩⟩
  ·refine Ze (if_pos (by kernel_rfl)) (Zc (Zp l _) fun _ _=>Zc (place _ 3 (by omega) (by omega)) fun rg hrg=>?_)
   have hrg':Yc rg=true:=by simp only [Yc,decide_eq_true_eq];omega
   refine Ze (if_pos (by kernel_rfl)) (Zc (Zp l _) fun _ _=>Zc (s22 _) fun r ⟨op,hr,hop⟩=>?_)
   subst hr
   refine Ze (if_neg (Zr (by kernel_rfl))) ?_
   refine Ze (if_neg (Zr (by kernel_rfl))) ?_
   refine Ze (if_neg (Zr (by kernel_rfl))) ?_
   refine Ze (if_neg (Zr (by kernel_rfl))) ?_
   refine Ze (if_neg (Zr (by kernel_rfl))) ?_
   refine Ze (if_neg (Zr (by kernel_rfl))) ?_
   refine Ze (if_neg (Zr (by kernel_rfl))) ?_
   refine Ze (if_neg (Zr (by kernel_rfl))) ?_
   refine Ze (if_neg (Zr (by kernel_rfl))) ?_
   exact Zg ⟨⟨9,v,fr,to,0,rg,0,op,0,false,Jg,[],[],[],[],0,ZQ,Zq,Zu⟩,rfl,JB ⟨9,v,fr,to,0,rg,0,op,0,false,Jg,[],[],[],[],0,ZQ,Zq,Zu⟩ 9 rfl (by decide) (by decide) hv hfr hto (by simp only [kf,List.all_cons,List.all_nil,ZK,decide_true,Bool.and_true,Bool.true_and,Bool.or_true,Bool.true_or,List.length_cons,List.length_nil,ne_eq,not_true_eq_false,not_false_eq_true,hrg',hop.ok]) (by kernel_rfl),⟨by simp [Jg,ZS],by simp,by simp,by simp,by simp,by simp,VD,Vv,Wu⟩,fun h=>⟨Yh,Ju,Jd⟩⟩
  ·refine Ze (if_pos (by kernel_rfl)) (Zc (Zp l _) fun _ _=>Zc (place _ 3 (by omega) (by omega)) fun rg hrg=>?_)
   have hrg':Yc rg=true:=by simp only [Yc,decide_eq_true_eq];omega
   refine Ze (if_pos (by kernel_rfl)) (Zc (Zp l _) fun _ _=>Zc (s22 _) fun r ⟨op,hr,hop⟩=>?_)
   subst hr
   refine Ze (if_neg (Zr (by kernel_rfl))) ?_
   refine Ze (if_neg (Zr (by kernel_rfl))) ?_
   refine Ze (if_neg (Zr (by kernel_rfl))) ?_
   refine Ze (if_neg (Zr (by kernel_rfl))) ?_
   refine Ze (if_neg (Zr (by kernel_rfl))) ?_
   refine Ze (if_neg (Zr (by kernel_rfl))) ?_
   refine Ze (if_neg (Zr (by kernel_rfl))) ?_
   refine Ze (if_neg (Zr (by kernel_rfl))) ?_
   refine Ze (if_neg (Zr (by kernel_rfl))) ?_
   exact Zg ⟨⟨10,v,fr,to,0,rg,0,op,0,false,Jg,[],[],[],[],0,ZQ,Zq,Zu⟩,rfl,JB ⟨10,v,fr,to,0,rg,0,op,0,false,Jg,[],[],[],[],0,ZQ,Zq,Zu⟩ 10 rfl (by decide) (by decide) hv hfr hto (by simp only [kf,List.all_cons,List.all_nil,ZK,decide_true,Bool.and_true,Bool.true_and,Bool.or_true,Bool.true_or,List.length_cons,List.length_nil,ne_eq,not_true_eq_false,not_false_eq_true,hrg',hop.ok]) (by kernel_rfl),⟨by simp [Jg,ZS],by simp,by simp,by simp,by simp,by simp,VD,Vv,Wu⟩,fun h=>⟨Yh,Ju,Jd⟩⟩
  ·refine Ze (if_pos (by kernel_rfl)) (Zc (Zp l _) fun _ _=>Zc (place _ 3 (by omega) (by omega)) fun rg hrg=>?_)
   have hrg':Yc rg=true:=by simp only [Yc,decide_eq_true_eq];omega
   refine Ze (if_pos (by kernel_rfl)) (Zc (Zp l _) fun _ _=>Zc (s22 _) fun r ⟨op,hr,hop⟩=>?_)
   subst hr
   refine Ze (if_neg (Zr (by kernel_rfl))) ?_
   refine Ze (if_neg (Zr (by kernel_rfl))) ?_
   refine Ze (if_neg (Zr (by kernel_rfl))) ?_
   refine Ze (if_neg (Zr (by kernel_rfl))) ?_
   refine Ze (if_neg (Zr (by kernel_rfl))) ?_
   refine Ze (if_neg (Zr (by kernel_rfl))) ?_
   refine Ze (if_neg (Zr (by kernel_rfl))) ?_
   refine Ze (if_neg (Zr (by kernel_rfl))) ?_
   refine Ze (if_neg (Zr (by kernel_rfl))) ?_
   exact Zg ⟨⟨11,v,fr,to,0,rg,0,op,0,false,Jg,[],[],[],[],0,ZQ,Zq,Zu⟩,rfl,JB ⟨11,v,fr,to,0,rg,0,op,0,false,Jg,[],[],[],[],0,ZQ,Zq,Zu⟩ 11 rfl (by decide) (by decide) hv hfr hto (by simp only [kf,List.all_cons,List.all_nil,ZK,decide_true,Bool.and_true,Bool.true_and,Bool.or_true,Bool.true_or,List.length_cons,List.length_nil,ne_eq,not_true_eq_false,not_false_eq_true,hrg',hop.ok]) (by kernel_rfl),⟨by simp [Jg,ZS],by simp,by simp,by simp,by simp,by simp,VD,Vv,Wu⟩,fun h=>⟨Yh,Ju,Jd⟩⟩
  ·refine Ze (if_neg (Zr (by kernel_rfl))) (Ze (if_pos (by kernel_rfl)) (Zc (Zp l _) fun _ _=>Zc (place _ 5 (by omega) (by omega)) fun rnd hrnd=>?_))
   have hrnd':YQ rnd=true:=by simp only [YQ,decide_eq_true_eq];omega
   refine Ze (if_neg (Zr (by kernel_rfl))) ?_
   refine Ze (if_neg (Zr (by kernel_rfl))) ?_
   refine Ze (if_neg (Zr (by kernel_rfl))) ?_
   refine Ze (if_neg (Zr (by kernel_rfl))) ?_
   refine Ze (if_neg (Zr (by kernel_rfl))) ?_
   refine Ze (if_pos (by kernel_rfl)) ?_
   refine Zc (Zp l 6) fun _ _=>Zc (s27 _) fun r ⟨cs,hr,hc1,hc2⟩=>?_
   subst hr
   exact Zg ⟨⟨12,v,fr,to,rnd,0,0,zid,0,false,Jg,[],[],cs,[],0,ZQ,Zq,Zu⟩,rfl,JB ⟨12,v,fr,to,rnd,0,0,zid,0,false,Jg,[],[],cs,[],0,ZQ,Zq,Zu⟩ 12 rfl (by decide) (by decide) hv hfr hto (by simp only [kf,List.all_cons,List.all_nil,ZK,decide_true,Bool.and_true,Bool.true_and,Bool.or_true,Bool.true_or,List.length_cons,List.length_nil,ne_eq,not_true_eq_false,not_false_eq_true,hrnd',hc2]) (by kernel_rfl),⟨by simp [Jg,ZS],by simp,by simp,by simp,hc1,by simp,VD,Vv,Wu⟩,fun h=>⟨Yh,Ju,Jd⟩⟩
  ·refine Ze (if_neg (Zr (by kernel_rfl))) (Ze (if_pos (by kernel_rfl)) (Zc (Zp l _) fun _ _=>Zc (place _ 5 (by omega) (by omega)) fun rnd hrnd=>?_))
   have hrnd':YQ rnd=true:=by simp only [YQ,decide_eq_true_eq];omega
   refine Ze (if_neg (Zr (by kernel_rfl))) ?_
   refine Ze (if_neg (Zr (by kernel_rfl))) ?_
   refine Ze (if_neg (Zr (by kernel_rfl))) ?_
   refine Ze (if_neg (Zr (by kernel_rfl))) ?_
   refine Ze (if_neg (Zr (by kernel_rfl))) ?_
   refine Ze (if_neg (Zr (by kernel_rfl))) ?_
   refine Ze (if_pos (by kernel_rfl)) ?_
   refine Zc (s24 l 6 (by omega)) fun r ⟨l1,hr,hl1,ql1⟩=>?_
   subst hr
   refine Zc (s28 l1 f n hf hn) fun r ⟨p,hr,hp,hpc⟩=>?_
   subst hr
   exact Zg ⟨⟨13,v,fr,to,rnd,0,0,zid,0,false,Jg,[],[],[],[],0,ZQ,Zq,p⟩,rfl,JB ⟨13,v,fr,to,rnd,0,0,zid,0,false,Jg,[],[],[],[],0,ZQ,Zq,p⟩ 13 rfl (by decide) (by decide) hv hfr hto (by simp only [kf,List.all_cons,List.all_nil,ZK,decide_true,Bool.and_true,Bool.true_and,Bool.or_true,Bool.true_or,List.length_cons,List.length_nil,ne_eq,not_true_eq_false,not_false_eq_true,hrnd',hp.ok]) (by kernel_rfl),⟨by simp [Jg,ZS],by simp,by simp,by simp,by simp,by simp,VD,Vv,hp⟩,fun h=>⟨Yh,Ju,hpc (ql1 h)⟩⟩
  ·refine Ze (if_neg (Zr (by kernel_rfl))) (Ze (if_pos (by kernel_rfl)) (Zc (Zp l _) fun _ _=>Zc (place _ 5 (by omega) (by omega)) fun rnd hrnd=>?_))
   have hrnd':YQ rnd=true:=by simp only [YQ,decide_eq_true_eq];omega
   refine Ze (if_neg (Zr (by kernel_rfl))) ?_
   refine Ze (if_neg (Zr (by kernel_rfl))) ?_
   refine Ze (if_neg (Zr (by kernel_rfl))) ?_
   refine Ze (if_neg (Zr (by kernel_rfl))) ?_
   refine Ze (if_neg (Zr (by kernel_rfl))) ?_
   refine Ze (if_neg (Zr (by kernel_rfl))) ?_
   refine Ze (if_neg (Zr (by kernel_rfl))) ?_
   refine Ze (if_pos (by kernel_rfl)) ?_
   refine Zc (Zp l 5) fun _ _=>Zc (place _ 70 (by omega) (by omega)) fun bs hbs=>?_
   have hbs':YQ bs=true:=by simp only [YQ,decide_eq_true_eq];omega
   refine Zc (Zp l 6) fun _ _=>Zc (s27 _) fun r ⟨cs,hr,hc1,hc2⟩=>?_
   subst hr
   refine Zc (s24 l 7 (by omega)) fun r ⟨l1,hr,hl1,ql1⟩=>?_
   subst hr
   refine Zc (s29 l1) fun r ⟨nv,hr,hnv⟩=>?_
   subst hr
   refine Zc (s24 l 8 (by omega)) fun r ⟨l2,hr,hl2,ql2⟩=>?_
   subst hr
   refine Zc (Zp l 9) fun _ _=>Zc (place _ 4 (by omega) (by omega)) fun c9 hc9=>?_
   refine Zc (s30 l2 f n hf hn c9) fun r ⟨ss,hr,hss,hsc⟩=>?_
   subst hr
   exact Zg ⟨⟨14,v,fr,to,rnd,0,0,zid,0,false,Jg,[],[],cs,[],bs,nv,ss,Zu⟩,rfl,JB ⟨14,v,fr,to,rnd,0,0,zid,0,false,Jg,[],[],cs,[],bs,nv,ss,Zu⟩ 14 rfl (by decide) (by decide) hv hfr hto (by simp only [kf,List.all_cons,List.all_nil,ZK,decide_true,Bool.and_true,Bool.true_and,Bool.or_true,Bool.true_or,List.length_cons,List.length_nil,ne_eq,not_true_eq_false,not_false_eq_true,hrnd',hbs',hc2,hnv.ok,hss.ok]) (by kernel_rfl),⟨by simp [Jg,ZS],by simp,by simp,by simp,hc1,by simp,hnv,hss.short hf,Wu⟩,fun h=>⟨Yh,hsc (ql2 h),Jd⟩⟩
  ·refine Ze (if_neg (Zr (by kernel_rfl))) (Ze (if_pos (by kernel_rfl)) (Zc (Zp l _) fun _ _=>Zc (place _ 5 (by omega) (by omega)) fun rnd hrnd=>?_))
   have hrnd':YQ rnd=true:=by simp only [YQ,decide_eq_true_eq];omega
   refine Ze (if_neg (Zr (by kernel_rfl))) ?_
   refine Ze (if_neg (Zr (by kernel_rfl))) ?_
   refine Ze (if_neg (Zr (by kernel_rfl))) ?_
   refine Ze (if_neg (Zr (by kernel_rfl))) ?_
   refine Ze (if_neg (Zr (by kernel_rfl))) ?_
   refine Ze (if_neg (Zr (by kernel_rfl))) ?_
   refine Ze (if_neg (Zr (by kernel_rfl))) ?_
   refine Ze (if_neg (Zr (by kernel_rfl))) ?_
   refine Ze (if_neg (Zr (by kernel_rfl))) ?_
   exact Zg ⟨⟨15,v,fr,to,rnd,0,0,zid,0,false,Jg,[],[],[],[],0,ZQ,Zq,Zu⟩,rfl,JB ⟨15,v,fr,to,rnd,0,0,zid,0,false,Jg,[],[],[],[],0,ZQ,Zq,Zu⟩ 15 rfl (by decide) (by decide) hv hfr hto (by simp only [kf,List.all_cons,List.all_nil,ZK,decide_true,Bool.and_true,Bool.true_and,Bool.or_true,Bool.true_or,List.length_cons,List.length_nil,ne_eq,not_true_eq_false,not_false_eq_true,hrnd']) (by kernel_rfl),⟨by simp [Jg,ZS],by simp,by simp,by simp,by simp,by simp,VD,Vv,Wu⟩,fun h=>⟨Yh,Ju,Jd⟩⟩
  ·refine Ze (if_neg (Zr (by kernel_rfl))) (Ze (if_pos (by kernel_rfl)) (Zc (Zp l _) fun _ _=>Zc (place _ 5 (by omega) (by omega)) fun rnd hrnd=>?_))
   have hrnd':YQ rnd=true:=by simp only [YQ,decide_eq_true_eq];omega
   refine Ze (if_neg (Zr (by kernel_rfl))) ?_
   refine Ze (if_neg (Zr (by kernel_rfl))) ?_
   refine Ze (if_neg (Zr (by kernel_rfl))) ?_
   refine Ze (if_neg (Zr (by kernel_rfl))) ?_
   refine Ze (if_neg (Zr (by kernel_rfl))) ?_
   refine Ze (if_neg (Zr (by kernel_rfl))) ?_
   refine Ze (if_neg (Zr (by kernel_rfl))) ?_
   refine Ze (if_neg (Zr (by kernel_rfl))) ?_
   refine Ze (if_neg (Zr (by kernel_rfl))) ?_
   exact Zg ⟨⟨16,v,fr,to,rnd,0,0,zid,0,false,Jg,[],[],[],[],0,ZQ,Zq,Zu⟩,rfl,JB ⟨16,v,fr,to,rnd,0,0,zid,0,false,Jg,[],[],[],[],0,ZQ,Zq,Zu⟩ 16 rfl (by decide) (by decide) hv hfr hto (by simp only [kf,List.all_cons,List.all_nil,ZK,decide_true,Bool.and_true,Bool.true_and,Bool.or_true,Bool.true_or,List.length_cons,List.length_nil,ne_eq,not_true_eq_false,not_false_eq_true,hrnd']) (by kernel_rfl),⟨by simp [Jg,ZS],by simp,by simp,by simp,by simp,by simp,VD,Vv,Wu⟩,fun h=>⟨Yh,Ju,Jd⟩⟩
  ·refine Ze (if_neg (Zr (by kernel_rfl))) (Ze (if_neg (Zr (by kernel_rfl))) ?_)
   refine Ze (if_neg (Zr (by kernel_rfl))) ?_
   refine Ze (if_neg (Zr (by kernel_rfl))) ?_
   refine Ze (if_neg (Zr (by kernel_rfl))) ?_
   refine Ze (if_neg (Zr (by kernel_rfl))) ?_
   refine Ze (if_neg (Zr (by kernel_rfl))) ?_
   refine Ze (if_neg (Zr (by kernel_rfl))) ?_
   refine Ze (if_neg (Zr (by kernel_rfl))) ?_
   refine Ze (if_neg (Zr (by kernel_rfl))) ?_
   refine Ze (if_pos (by kernel_rfl)) ?_
   refine Zc (Zp l 6) fun _ _=>Zc (s27 _) fun r ⟨cs,hr,hc1,hc2⟩=>?_
   subst hr
   refine Zku (ZAj l ⟨17,v,fr,to,0,0,0,zid,0,false,Jg,[],[],cs,[],0,ZQ,Zq,Zu⟩) fun r ⟨ns,hr,hn1,hn2⟩=>?_
   exact ⟨⟨17,v,fr,to,0,0,0,zid,0,false,Jg,[],[],cs,ns,0,ZQ,Zq,Zu⟩,hr,JB ⟨17,v,fr,to,0,0,0,zid,0,false,Jg,[],[],cs,ns,0,ZQ,Zq,Zu⟩ 17 rfl (by decide) (by decide) hv hfr hto (by simp only [kf,List.all_cons,List.all_nil,ZK,decide_true,Bool.and_true,Bool.true_and,Bool.or_true,Bool.true_or,List.length_cons,List.length_nil,ne_eq,not_true_eq_false,not_false_eq_true,hc2,List.all_eq_true.2 hn2,show ns.length≤16 by omega]) (by kernel_rfl),⟨by simp [Jg,ZS],by simp,by simp,by simp,hc1,hn1,VD,Vv,Wu⟩,fun h=>⟨Yh,Ju,Jd⟩⟩
end Go.Proofs.YtjldbnbdcmfbmaaGreat
end

section
namespace Go.Proofs.YtjldbnbdcmfbmaaGreat
open Go Go.AM
set_option linter.unusedSimpArgs false
set_option linter.unusedVariables false
set_option maxRecDepth 100000
theorem e9:g12 3 1 0 2 0 1 0 0 5 0 0 false 0 0 0 0 0 0 0 0 0 0 0 0 0 0 0 0 0 0 0 0 E0 0 0 0 0 0 0 false E0 E0 E0 E0 0 0 E0 E0 E0 E0 E0 E0 E0 E0 0 0 E0 E0 E0 E0 E0 E0 E0 E0 false 0 E0 E0 E0 E0 E0 E0 E0 E0=some true:=by kernel_rfl
theorem e7:g14 3 1 0 2 0 1 0 0 5 0 0 false 0 0 0 0 0 0 0 0 0 0 0 0 0 0 0 0 0 0 0 0 E0 0 0 0 0 0 0 false E0 E0 E0 E0 0 0 E0 E0 E0 E0 E0 E0 E0 E0 0 0 E0 E0 E0 E0 E0 E0 E0 E0 false 0 E0 E0 E0 E0 E0 E0 E0 E0=some ((Zd [3,1,0,2,1,0,5,0]),0):=by kernel_rfl
theorem e17:g19 3 1 0 2 0 1 0 0 5 0 0 false 0 0 0 0 0 0 0 0 0 0 0 0 0 0 0 0 0 0 0 0 E0 0 0 0 0 0 0 false E0 E0 E0 E0 0 0 E0 E0 E0 E0 E0 E0 E0 E0 0 0 E0 E0 E0 E0 E0 E0 E0 E0 false 0 E0 E0 E0 E0 E0 E0 E0 E0 3 1 0 2 0 1 0 0 5 0 0 false 0 0 0 0 0 0 0 0 0 0 0 0 0 0 0 0 0 0 0 0 E0 0 0 0 0 0 0 false E0 E0 E0 E0 0 0 E0 E0 E0 E0 E0 E0 E0 E0 0 0 E0 E0 E0 E0 E0 E0 E0 E0 false 0 E0 E0 E0 E0 E0 E0 E0 E0=some true:=by kernel_rfl
theorem e16:g17 (Zd [3,1,0,2,1,0,5,0])=some (3,1,0,2,0,1,0,0,5,0,0,false,0,0,0,0,0,0,0,0,0,0,0,0,0,0,0,0,0,0,0,0,E0,0,0,0,0,0,0,false,E0,E0,E0,E0,0,0,E0,E0,E0,E0,E0,E0,E0,E0,0,0,E0,E0,E0,E0,E0,E0,E0,E0,false,0,E0,E0,E0,E0,E0,E0,E0,E0,0):=by kernel_rfl
theorem s9:g9=some true:=by
 rw [ZAF,e7,Option.bind_some]
 dsimp only
 rw [e16,Option.bind_some]
 dsimp only [d2,d4,d8,d16]
 rw [e17,e9]
 refine JD (fun _=>?_) fun h=>absurd (by decide) h
 refine JD (fun _=>?_) fun h=>absurd (by decide) h
 refine Zpk (of_decide_eq_true (by kernel_rfl)) ?_
 refine JD (fun _=>rfl) fun h=>absurd (by rw [ByteArray.toList_eq,ByteArray.toList_eq];decide) h
end Go.Proofs.YtjldbnbdcmfbmaaGreat
end

section
namespace Go.Proofs.YtjldbnbdcmfbmaaGreat
open Go Go.AM
set_option linter.unusedSimpArgs false
set_option linter.unusedVariables false
set_option maxRecDepth 100000
end Go.Proofs.YtjldbnbdcmfbmaaGreat
end

section
namespace Go.Proofs.YtjldbnbdcmfbmaaGreat
open Go Go.AM
set_option linter.unusedSimpArgs false
set_option linter.unusedVariables false
set_option maxRecDepth 100000
end Go.Proofs.YtjldbnbdcmfbmaaGreat
end

section
namespace Go.Proofs.YtjldbnbdcmfbmaaGreat
open Go Go.AM
set_option linter.unusedSimpArgs false
set_option linter.unusedVariables false
set_option maxRecDepth 100000
end Go.Proofs.YtjldbnbdcmfbmaaGreat
end

section
namespace Go.Proofs.YtjldbnbdcmfbmaaGreat
open Go Go.AM
set_option linter.unusedSimpArgs false
set_option linter.unusedVariables false
set_option maxRecDepth 100000
theorem ZV (l:List Int):(Zd l).length=l.length:=by simp [Zd]
theorem Zj8 {l:List Int} (h:Zv l):Zg5 (Zd l):=by
 intro e he
 obtain ⟨z,hz,rfl⟩:=List.mem_map.1 he
 exact ⟨z,(h z hz).1,(h z hz).2,rfl⟩
theorem Zp0 {l:List Int} {i:Nat} {z:Int} (h:l[i]? = some z):(Zd l)[i]? = some [AV.val (.int .u8 z)]:=by
 simp [Zd,h,u8c]
theorem JG {γ:Type} {l:List Int} {i:Int} {z:Int} (k:Int→Option γ) (h0:0≤i) (h:l[i.toNat]? = some z):Zm (Zd l) i [.int .u8] k=k z:=
 Yq (sh:=[.int .u8]) (r:=z) k h0 (Zp0 h) rfl
theorem Zrn (z:Int):IntKind.wrap .u8 z=z % 256:=by
 have hb:IntKind.u8.bits=8:=rfl
 have hs:IntKind.u8.signed=false:=rfl
 simp [IntKind.wrap,hb,hs]
theorem Zl0 {a:Int} {n:Nat} (h:n≤64):iop .shr .i64 a n=a / 2^n:=by
 have hmin:min ((n:Int)).toNat IntKind.i64.bits=n:=by
  have:IntKind.i64.bits=64:=rfl
  omega
 simp only [iop,hmin]
 rw [Int.fdiv_eq_ediv_of_nonneg _ (by have:=JM n;omega)]
def J7 (c:Cap):List Int:=[c.kind,c.bits,c.rights+(if c.device=true then 8 else 0),c.width,c.level,c.base % 256,c.base / 256 % 256,c.base / 65536 % 256,c.base / 16777216 % 256,c.base / 4294967296 % 256]
def Ziu (c:Cap):List Int:=if Yu c=true then J7 c else []
def ZyZ (c:Cap):Int:=if Yu c=true then 0 else 1
theorem Zgh {c:Cap} (h:Yu c=true):1≤c.kind∧c.kind≤6∧6≤c.bits∧c.bits≤40∧0≤c.rights∧c.rights≤7∧0≤c.width∧c.width≤39∧0≤c.level∧c.level≤2∧0≤c.base∧c.base < 1099511627776:=by
 obtain ⟨r1,r2,r3,r4,r5⟩:=Zcj (Zoo h)
 have hp:=JM c.bits.toNat
 simp only [Yu,Bool.and_eq_true,decide_eq_true_eq] at h
 obtain ⟨⟨⟨⟨h1,h2⟩,h3⟩,h4⟩,h5⟩:=h
 simp only [VJ,decide_eq_true_eq] at h1
 have h6:0≤c.width∧c.width≤39∧0≤c.level∧c.level≤2:=by
  split at h4
  ·simp only [ZbJ,decide_eq_true_eq] at h4
   omega
  ·simp only [decide_eq_true_eq] at h4
   omega
 omega
theorem room1 {a b:List (List AV)} (ha:a.length≤200000000000) (hb:b.length≤200000000000):Je a b 1:=by
 unfold Je JE
 omega
theorem Zk1 {f:Nat} {k b s r w l:Int} {d:Bool} {x0 x1 x2 x3 x4:Int} : ZhF (f+1+1+1+1+1+1) k b s r w l d (Zd [x0,x1,x2,x3,x4]) 0 =
  some (Zd [x0,x1,x2,x3,x4,b % 256,b / 256 % 256,b / 65536 % 256,b / 16777216 % 256,b / 4294967296 % 256],0):=by
 have q0:iop .shr .i64 b (iop .mul .i64 8 0)=b:=by rw [show iop .mul .i64 8 0=((0:Nat):Int) by decide,Zl0 (by decide)];simp
 have q1:iop .shr .i64 b (iop .mul .i64 8 1)=b / 256:=by rw [show iop .mul .i64 8 1=((8:Nat):Int) by decide,Zl0 (by decide)];rfl
 have q2:iop .shr .i64 b (iop .mul .i64 8 2)=b / 65536:=by rw [show iop .mul .i64 8 2=((16:Nat):Int) by decide,Zl0 (by decide)];rfl
 have q3:iop .shr .i64 b (iop .mul .i64 8 3)=b / 16777216:=by rw [show iop .mul .i64 8 3=((24:Nat):Int) by decide,Zl0 (by decide)];rfl
 have q4:iop .shr .i64 b (iop .mul .i64 8 4)=b / 4294967296:=by rw [show iop .mul .i64 8 4=((32:Nat):Int) by decide,Zl0 (by decide)];rfl
 rw [Vh,if_pos (by decide),Zj (by decide),Zj (room1 (by simp [Zd]) (by simp)),q0,show iop .add .i64 0 1=1 by decide,
  Vh,if_pos (by decide),Zj (by decide),Zj (room1 (by simp [Zd]) (by simp)),q1,show iop .add .i64 1 1=2 by decide,
  Vh,if_pos (by decide),Zj (by decide),Zj (room1 (by simp [Zd]) (by simp)),q2,show iop .add .i64 2 1=3 by decide,
  Vh,if_pos (by decide),Zj (by decide),Zj (room1 (by simp [Zd]) (by simp)),q3,show iop .add .i64 3 1=4 by decide,
  Vh,if_pos (by decide),Zj (by decide),Zj (room1 (by simp [Zd]) (by simp)),q4,show iop .add .i64 4 1=5 by decide,
  Vh,if_neg (by decide)]
 simp only [Zrn]
 rfl
theorem ZEQ (k b s r w l:Int) (d:Bool):ZBF k b s r w l d=some (Zd (Ziu ⟨k,b,s,r,w,l,d⟩),ZyZ ⟨k,b,s,r,w,l,d⟩):=by
 rw [Ztt,ZA3]
 simp only [Option.bind_some]
 cases hc:Yu ⟨k,b,s,r,w,l,d⟩ with
 | false => simp [Ziu, ZyZ, hc, Zd]
 | true =>
  obtain ⟨h1,h2,h3,h4,h5,h6,h7,h8,h9,h10,h11,h12⟩:=Zgh hc
  simp only at h1 h2 h3 h4 h5 h6 h7 h8 h9 h10 h11 h12
  have a8:iop .add .i64 r 8=r+8:=JH (by omega) (by omega)
  have w1:k % 256=k:=by omega
  have w2:s % 256=s:=by omega
  have w3:r % 256=r:=by omega
  have w4:(r+8) % 256=r+8:=by omega
  have w5:w % 256=w:=by omega
  have w6:l % 256=l:=by omega
  obtain ⟨f,hf⟩:=ZoM
  simp only [Bool.not_true,Bool.false_eq_true,if_false,Zrn,a8,w1,w2,w3,w4,w5,w6,hf]
  cases d
  ·have:=Zk1 (f:=f) (k:=k) (b:=b) (s:=s) (r:=r) (w:=w) (l:=l) (d:=false) (x0:=k) (x1:=s) (x2:=r) (x3:=w) (x4:=l)
   rw [if_neg (by simp)]
   simp only [Ziu,ZyZ,hc,if_true,J7,Bool.false_eq_true,if_false,Int.add_zero]
   exact this
  ·have:=Zk1 (f:=f) (k:=k) (b:=b) (s:=s) (r:=r) (w:=w) (l:=l) (d:=true) (x0:=k) (x1:=s) (x2:=r+8) (x3:=w) (x4:=l)
   rw [if_pos rfl]
   simp only [Ziu,ZyZ,hc,if_true,J7]
   exact this
end Go.Proofs.YtjldbnbdcmfbmaaGreat
end

section
namespace Go.Proofs.YtjldbnbdcmfbmaaGreat
open Go Go.AM
set_option linter.unusedSimpArgs false
set_option linter.unusedVariables false
set_option maxRecDepth 100000
def uvm:Nat→Nat→List Int
 | 0, _ => []
 | 1, v => [((v % 128 : Nat) : Int)]
 | m + 2, v => ((v % 128 + 128 : Nat) : Int) :: uvm (m + 1) (v / 128)
def cnt:Nat→Nat→Nat
 | 0, _ => 0
 | k + 1, r => if r = 0 then 0 else 1 + cnt k (r / 128)
def uvN (v:Nat):Nat:=1+cnt 10 (v / 128)
def uv (v:Nat):List Int:=uvm (uvN v) v
theorem ZnE:∀ (k r:Nat),cnt k r≤k
 | 0, _ => Nat.le_refl _
 | k + 1, r => by
  unfold cnt
  split
  ·omega
  ·have:=ZnE k (r / 128)
   omega
theorem Zmx:∀ (m v:Nat),(uvm m v).length=m
 | 0, _ => rfl
 | 1, _ => rfl
 | m + 2, v => by simp [uvm, Zmx (m + 1)]
theorem ZgM:∀ (m v:Nat),Zv (uvm m v)
 | 0, _ => by simp [uvm, Zv]
 | 1, v => by
  intro z hz
  rw [uvm,List.mem_singleton] at hz
  omega
 | m + 2, v => by
  intro z hz
  rw [uvm,List.mem_cons] at hz
  rcases hz with rfl | hz
  ·omega
  ·exact ZgM (m+1) (v / 128) z hz
theorem ZAI (r:Nat):iop .shr .u64 (r:Int) 7=((r / 128:Nat):Int):=by
 have hmin:min ((7:Int)).toNat IntKind.u64.bits=7:=by
  have:IntKind.u64.bits=64:=rfl
  omega
 simp only [iop,hmin]
 rw [Int.fdiv_eq_ediv_of_nonneg _ (by decide)]
 rfl
theorem ZvM (v:Nat):IntKind.wrap .u8 (iop .and .u64 (v:Int) 127)=((v % 128:Nat):Int):=by
 have h1:(BitVec.ofInt 64 (v:Int)&&& BitVec.ofInt 64 127).toNat=v % 128:=by
  rw [BitVec.toNat_and,BitVec.toNat_ofInt,BitVec.toNat_ofInt]
  have h127:((127:Int) % ((2^64:Nat):Int)).toNat=2^7-1:=by decide
  rw [h127,Nat.and_two_pow_sub_one_eq_mod]
  have h65:(2:Nat)^64=18446744073709551616:=by decide
  have h7:(2:Nat)^7=128:=by decide
  rw [h65,h7]
  omega
 show IntKind.wrap .u8 (IntKind.wrap .u64 (((BitVec.ofInt 64 (v:Int)&&& BitVec.ofInt 64 127).toNat:Nat):Int))=_
 rw [h1,JL (by omega) (by have:(2:Int)^64=18446744073709551616:=(by decide);omega),Zrn]
 omega
theorem ZAm {c:Nat} (h:c < 128):iop .or .u8 (c:Int) 128=((c+128:Nat):Int):=by
 have:∀ c:Fin 128,iop .or .u8 ((c.val:Nat):Int) 128=((c.val+128:Nat):Int):=by decide +kernel
 exact this ⟨c,h⟩
theorem Zc4 (a b:List Int):Zd (a++b)=Zd a++Zd b:=by simp [Zd]
theorem Zka:∀ (a b:List Int) (y z:Int),Ja (Zd (a++y::b)) a.length 0 [AV.val (.int .u8 z)]=Zd (a++z::b)
 | [], b, y, z => by simp [Ja, Zd, u8c, setCells, List.modify_zero_cons]
 | x :: a, b, y, z => by
  have ih:=Zka a b y z
  simp only [Ja,Zd] at ih ⊢
  simp only [List.cons_append,List.map_cons,List.length_cons,List.modify_succ_cons,ih]
theorem ZAw {x0:List (List AV)} {v:Int} (hx:x0.length≤100000000000):∀ (k fuel r s:Nat),r < 128^k→k < fuel→s+k≤100→∀ (y:Option (List (List AV))),
  ZcF ZB x0 v ((s+cnt k r:Nat):Int) (Zlu (List.replicate (x0.length+(s+cnt k r)) [AV.val (.int .u8 0)]) x0) 0=y→Zgu fuel x0 v s r=y:=by
 have exit:∀ (f s:Nat),s≤100→∀ (y:Option (List (List AV))),ZcF ZB x0 v (s:Int) (Zlu (List.replicate (x0.length+s) [AV.val (.int .u8 0)]) x0) 0=y→Zgu (f+1) x0 v s (0:Nat)=y:=by
  intro f s hs y hy
  have ha:iop .add .i64 (x0.length:Int) (s:Int)=((x0.length+s:Nat):Int):=by rw [JH (by omega) (by omega)];omega
  rw [Zg0,if_neg (by decide),ha,Zj ⟨by omega,by unfold JE;omega⟩,Zj (Int.le_refl _),Zj (Int.le_refl _),Int.toNat_natCast]
  exact hy
 intro k
 induction k with
 | zero =>
  intro fuel r s hr hf hs y hy
  obtain ⟨f,rfl⟩:∃ f,fuel=f+1:=⟨fuel-1,by omega⟩
  have h0:r=0:=by simpa using hr
  subst h0
  exact exit f s (by omega) y hy
 | succ k ih =>
  intro fuel r s hr hf hs y hy
  obtain ⟨f,rfl⟩:∃ f,fuel=f+1:=⟨fuel-1,by omega⟩
  by_cases h0:r=0
  ·subst h0
   exact exit f s (by omega) y hy
  ·have hc:cnt (k+1) r=1+cnt k (r / 128):=by rw [cnt,if_neg h0]
   have hd:r / 128 < 128^k:=by
    rw [Nat.pow_succ] at hr
    exact Nat.div_lt_of_lt_mul (by omega)
   have a4:iop .add .i64 (s:Int) 1=((s+1:Nat):Int):=by rw [JH (by omega) (by omega)];omega
   rw [Zg0,if_pos (by simp only [CQ];omega),Zj (by decide),a4,ZAI]
   refine ih f (r / 128) (s+1) hd (by omega) (by omega) y ?_
   rw [hc] at hy
   rw [show s+1+cnt k (r / 128)=s+(1+cnt k (r / 128)) by omega]
   exact hy
theorem ZAR (l:List Int) {size:Nat} (hl:l.length+size≤200000000000):∀ (m fuel i v:Nat) (done:List Int),size=i+m→m < fuel→done.length=i→
  ZcF fuel (Zd l) (v:Int) (size:Int) (Zd (l++done++List.replicate m 0)) (i:Int)=some (Zd (l++done++uvm m v)):=by
 intro m
 induction m with
 | zero =>
  intro fuel i v done h hf hd
  obtain ⟨f,rfl⟩:∃ f,fuel=f+1:=⟨fuel-1,by omega⟩
  rw [Zib,if_neg (by simp only [CQ];omega)]
  simp [uvm]
 | succ m ih =>
  intro fuel i v done h hf hd
  obtain ⟨f,rfl⟩:∃ f,fuel=f+1:=⟨fuel-1,by omega⟩
  have a1:iop .sub .i64 (size:Int) 1=((size-1:Nat):Int):=by rw [Zd3 (by omega) (by omega)];omega
  have a2:iop .add .i64 (l.length:Int) (i:Int)=((l.length+i:Nat):Int):=by rw [JH (by omega) (by omega)];omega
  have a3:iop .add .i64 (i:Int) 1=((i+1:Nat):Int):=by rw [JH (by omega) (by omega)];omega
  have hat:(l++done).length=l.length+i:=by simp [hd]
  have hset:∀ z:Int,Ja (Zd (l++done++List.replicate (m+1) 0)) (l.length+i) 0 [AV.val (.int .u8 z)]=Zd (l++(done++[z])++List.replicate m 0):=by
   intro z
   have:=Zka (l++done) (List.replicate m 0) 0 z
   rw [hat] at this
   rw [List.replicate_succ,this]
   simp [List.append_assoc]
  have hL:List.length (Zd (l++done++List.replicate (m+1) 0))=l.length+size:=by rw [ZV];simp [hd];omega
  rw [Zib,if_pos (by simp only [CQ];omega),hL,ZV l,a1,a2,a3,ZAI,Int.toNat_natCast,ZvM,ZAm (Nat.mod_lt _ (by decide)),hset,hset]
  cases m with
  | zero =>
   rw [if_neg (by simp only [CQ];omega),Zj (by omega),Zj (by omega),Zj (by omega),Zj (by omega),Zj (by decide)]
   have:=ih f (i+1) (v / 128) (done++[((v % 128:Nat):Int)]) (by omega) (by omega) (by simp [hd])
   rw [this]
   simp [uvm]
  | succ m =>
   rw [if_pos (by simp only [CQ];omega),Zj (by omega),Zj (by omega),Zj (by omega),Zj (by omega),Zj (by decide)]
   have:=ih f (i+1) (v / 128) (done++[((v % 128+128:Nat):Int)]) (by omega) (by omega) (by simp [hd])
   rw [this]
   simp [uvm,List.append_assoc]
theorem Zqh (l:List Int) (n:Nat):Zlu (List.replicate (l.length+n) [AV.val (.int .u8 0)]) (Zd l)=Zd (l++List.replicate n 0):=by
 unfold Zlu
 rw [List.length_replicate,List.take_of_length_le (by rw [ZV];omega),ZV,List.drop_replicate,Zc4]
 have:l.length+n-l.length=n:=by omega
 rw [this]
 congr 1
 simp [Zd,u8c]
theorem ZDo (l:List Int) (hl:l.length≤100000000000) (v:Nat) (hv:v < 2^64):Zsw (Zd l) v=some (Zd (l++uv v)):=by
 rw [Zuk,Zj (by decide),ZAI]
 have h64:(2:Nat)^64=18446744073709551616:=by decide
 have h128:(128:Nat)^10=1180591620717411303424:=by decide
 refine ZAw (by rw [ZV];exact hl) 10 ZB (v / 128) 1 (by omega) (YR (by decide)) (by decide) _ ?_
 rw [ZV,Zqh]
 have hc:=ZnE 10 (v / 128)
 have:=ZAR l (size:=1+cnt 10 (v / 128)) (by omega) (1+cnt 10 (v / 128)) ZB 0 v [] (by omega) (YR (by omega)) rfl
 rw [List.append_nil] at this
 exact this
theorem Kj (v:Nat):(uv v).length=uvN v:=Zmx _ _
theorem ZaK (v:Nat):uvN v≤11:=by have:=ZnE 10 (v / 128);unfold uvN;omega
theorem Wl (v:Nat):Zv (uv v):=ZgM _ _
def idB (i:Id):List Int:=uv i.core.toNat++uv i.op.toNat++uv i.part.toNat
theorem KL (i:Id):(idB i).length≤33:=by
 have h1:=ZaK i.core.toNat
 have h2:=ZaK i.op.toNat
 have h3:=ZaK i.part.toNat
 simp only [idB,List.length_append,Kj]
 omega
theorem ZhG (l:List Int) (hl:l.length≤100000000000) (z:Int) (h0:0≤z) (h1:z < 2^63):Zsw (Zd l) (IntKind.wrap .u64 z)=some (Zd (l++uv z.toNat)):=by
 have h63:(2:Int)^63=9223372036854775808:=by decide
 have h64:(2:Int)^64=18446744073709551616:=by decide
 have h64':(2:Nat)^64=18446744073709551616:=by decide
 have e:IntKind.wrap .u64 z=((z.toNat:Nat):Int):=by rw [JL h0 (by omega)];omega
 rw [e]
 exact ZDo l hl z.toNat (by omega)
theorem ZjA {i:Id} (h:VA i=true):0≤i.core∧i.core < 32∧1≤i.op∧i.op≤1073741824∧0≤i.part∧i.part < 8:=by simpa [VA] using h
theorem ZDg (l:List Int) (hl:l.length≤90000000000) (i:Id) (hi:VA i=true):ZvX (Zd l) i.core i.op i.part=some (Zd (l++idB i)):=by
 obtain ⟨h1,h2,h3,h4,h5,h6⟩:=ZjA hi
 obtain ⟨f,hf⟩:=ZoM
 have h63:(2:Int)^63=9223372036854775808:=by decide
 have u1:=ZaK i.core.toNat
 have u2:=ZaK i.op.toNat
 have e:(((E0++[[AV.val (.int .i64 i.core)]])++[[AV.val (.int .i64 i.op)]])++[[AV.val (.int .i64 i.part)]]) = [Wo i.core,Wo i.op,Wo i.part]:=rfl
 have e1:iop .add .i64 0 1=1:=by decide
 have e2:iop .add .i64 1 1=2:=by decide
 have e3:iop .add .i64 2 1=3:=by decide
 have hlen:(([Wo i.core,Wo i.op,Wo i.part] : List (List AV)).length:Int)=3:=rfl
 rw [ZmI,e,hf,hlen]
 rw [Y7,if_pos (by decide),Yq (sh:=[.int .i64]) (cs:=Wo i.core) (r:=i.core) _ (by decide) rfl rfl,ZhG l (by omega) i.core h1 (by omega),Option.bind_some,e1,
  Y7,if_pos (by decide),Yq (sh:=[.int .i64]) (cs:=Wo i.op) (r:=i.op) _ (by decide) rfl rfl,ZhG _ (by rw [List.length_append,Kj];omega) i.op (by omega) (by omega),Option.bind_some,e2,
  Y7,if_pos (by decide),Yq (sh:=[.int .i64]) (cs:=Wo i.part) (r:=i.part) _ (by decide) rfl rfl,ZhG _ (by rw [List.length_append,List.length_append,Kj,Kj];omega) i.part (by omega) (by omega),Option.bind_some,e3,
  Y7,if_neg (by decide)]
 simp [idB,List.append_assoc]
def Ko (n:J4):List Int:=idB n.id++uv n.path.length++(n.path.map idB).flatten++J7 n.cap
def Y9 (n:J4):List Int:=if ZR n=true then Ko n else []
def ZvL (n:J4):Int:=if ZR n=true then 0 else 1
theorem WM {n:J4} (h:ZR n=true):VA n.id=true∧Yu n.cap=true∧n.path.length≤8∧∀ i,i < n.path.length→KZ n i=true:=by
 simp only [ZR,Bool.and_eq_true,decide_eq_true_eq,List.all_eq_true,List.mem_range] at h
 exact ⟨h.1.1.1,h.1.1.2,h.1.2,h.2⟩
theorem ZmX {n:J4} (h:ZR n=true) (x:Id) (hx:x∈n.path):VA x=true:=by
 obtain ⟨i,hi⟩:=List.mem_iff_getElem?.1 hx
 have:=(WM h).2.2.2 i (List.getElem?_eq_some_iff.1 hi).1
 unfold KZ at this
 rw [hi] at this
 simp only [Bool.and_eq_true] at this
 exact this.1.1
theorem ZDT (n:J4) (hn:ZR n=true):∀ (j i fuel:Nat) (acc:List Int),n.path.length=i+j→j < fuel→acc.length≤1000+33*i→
  ZkC fuel n.id.core n.id.op n.id.part (Zb n.path) n.cap.kind n.cap.base n.cap.bits n.cap.rights n.cap.width n.cap.level n.cap.device (Zd acc) (Zb n.path) (n.path.length:Int) i =
   some (Zd (acc++((n.path.drop i).map idB).flatten++J7 n.cap),0):=by
 obtain ⟨h1,h2,h3,h4⟩:=WM hn
 intro j
 induction j with
 | zero =>
  intro i fuel acc h hf ha
  obtain ⟨f,rfl⟩:∃ f,fuel=f+1:=⟨fuel-1,by omega⟩
  have hb:Ziu ⟨n.cap.kind,n.cap.base,n.cap.bits,n.cap.rights,n.cap.width,n.cap.level,n.cap.device⟩=J7 n.cap:=by
   show Ziu n.cap=_
   unfold Ziu
   rw [if_pos h2]
  rw [Zhx,if_neg (by simp only [CQ];omega),ZEQ,Option.bind_some,hb,Zj (room1 (by rw [ZV];omega) (by rw [ZV];simp [J7])),List.drop_of_length_le (by omega)]
  simp [Zc4]
 | succ j ih =>
  intro i fuel acc h hf ha
  obtain ⟨f,rfl⟩:∃ f,fuel=f+1:=⟨fuel-1,by omega⟩
  have hi:i < n.path.length:=by omega
  have hat:n.path[(i:Int).toNat]? = some n.path[i]:=by simp
  have a4:iop .add .i64 i 1=((i+1:Nat):Int):=by rw [JH (by omega) (by omega)];omega
  have hx:=ZmX hn n.path[i] (List.getElem_mem hi)
  have hle:=KL n.path[i]
  rw [Zhx,if_pos (by simp only [CQ];omega),V0 _ (by omega) hat,ZDg acc (by omega) _ hx,Option.bind_some,a4,ih (i+1) f _ (by omega) (by omega) (by rw [List.length_append];omega),List.drop_eq_getElem_cons hi]
  simp only [List.map_cons,List.flatten_cons,List.append_assoc]
theorem ZDw (n:J4) (hl:n.path.length < 2^63):ZCo n.id.core n.id.op n.id.part (Zb n.path) n.cap.kind n.cap.base n.cap.bits n.cap.rights n.cap.width n.cap.level n.cap.device=some (Zd (Y9 n),ZvL n):=by
 rw [Zut,s95 n hl,Option.bind_some]
 unfold Y9 ZvL
 cases hn:ZR n with
 | false => rfl
 | true =>
  obtain ⟨h1,h2,h3,h4⟩:=WM hn
  have hle:=KL n.id
  have hu:=ZaK n.path.length
  have e0:E0=Zd []:=rfl
  rw [if_neg (by simp),e0,ZDg [] (by simp) n.id h1,Option.bind_some,List.nil_append,ZU,ZhG _ (by omega) _ (by omega) (by omega),Option.bind_some,Int.toNat_natCast,if_pos rfl,if_pos rfl]
  have:=ZDT n hn n.path.length 0 ZB (idB n.id++uv n.path.length) (by omega) (YR (by omega)) (by rw [List.length_append,Kj];omega)
  refine this.trans ?_
  rfl
end Go.Proofs.YtjldbnbdcmfbmaaGreat
end

section
namespace Go.Proofs.YtjldbnbdcmfbmaaGreat
open Go Go.AM
set_option linter.unusedSimpArgs false
set_option linter.unusedVariables false
set_option maxRecDepth 100000
theorem ZkK:∀ (k r:Nat),r < 128^k→cnt (k+1) r=cnt k r
 | 0, r, h => by
  have:r=0:=by simpa using h
  subst this
  rfl
 | k + 1, r, h => by
  have e:∀ (m r:Nat),cnt (m+1) r=if r=0 then 0 else 1+cnt m (r / 128):=fun _ _=>rfl
  rw [e (k+1) r,e k r]
  by_cases h0:r=0
  ·rw [if_pos h0,if_pos h0]
  ·have hd:r / 128 < 128^k:=by
    rw [Nat.pow_succ] at h
    exact Nat.div_lt_of_lt_mul (by omega)
   rw [if_neg h0,if_neg h0,ZkK k _ hd]
theorem Zbm {v:Nat} (hv:v < 2^64):uv v=if v < 128 then [(v:Int)] else ((v % 128+128:Nat):Int)::uv (v / 128):=by
 have h64:(2:Nat)^64=18446744073709551616:=by decide
 by_cases h:v < 128
 ·rw [if_pos h]
  have h0:v / 128=0:=by omega
  have hn:uvN v=1:=by rw [uvN,h0];rfl
  have hm:v % 128=v:=by omega
  rw [uv,hn,uvm,hm]
 ·rw [if_neg h]
  have h0:v / 128≠0:=by omega
  have hf:cnt 10 (v / 128 / 128)=cnt 9 (v / 128 / 128):=ZkK 9 _ (by
   have:(128:Nat)^9=9223372036854775808:=by decide
   omega)
  have hn:uvN v=uvN (v / 128)+1:=by rw [uvN,uvN,hf,cnt,if_neg h0];omega
  have hn':uvN v=(cnt 10 (v / 128 / 128))+2:=by rw [hn,uvN];omega
  rw [uv,hn',uvm,uv,uvN]
  rw [show 1+cnt 10 (v / 128 / 128)=cnt 10 (v / 128 / 128)+1 by omega]
theorem Zfa {v:Nat} (hv:v < 2^64):uvN v=if v < 128 then 1 else uvN (v / 128)+1:=by
 rw [← Kj,Zbm hv]
 split
 ·rfl
 ·rw [List.length_cons,Kj]
end Go.Proofs.YtjldbnbdcmfbmaaGreat
end

section
namespace Go.Proofs.YtjldbnbdcmfbmaaGreat
open Go Go.AM
set_option linter.unusedSimpArgs false
set_option linter.unusedVariables false
set_option maxRecDepth 100000
theorem ZnR (z:Int):0≤IntKind.u64.wrap z∧IntKind.u64.wrap z < 2^64:=by
 have hs:IntKind.u64.signed=false:=rfl
 have hb:IntKind.u64.bits=64:=rfl
 have h64:(2:Int)^64=18446744073709551616:=by decide
 simp only [IntKind.wrap,hs,hb,Bool.false_and,if_false,Bool.false_eq_true,h64]
 omega
theorem Zog (a b:Int):iop .xor .u64 a b=(((BitVec.ofInt 64 a ^^^ BitVec.ofInt 64 b).toNat:Nat):Int):=by
 have h:=(BitVec.ofInt 64 a ^^^ BitVec.ofInt 64 b).isLt
 show IntKind.u64.wrap (((BitVec.ofInt 64 a ^^^ BitVec.ofInt 64 b).toNat:Nat):Int)=_
 exact JL (by omega) (by have:(2:Int)^64=((2^64:Nat):Int):=(by decide);omega)
theorem ZlT (a b:Int):iop .xor .u64 a b=iop .xor .u64 b a:=by rw [Zog,Zog,BitVec.xor_comm]
theorem Zl3 {a:Int} (h0:0≤a) (h1:a < 2^64):iop .xor .u64 a 0=a:=by
 have h64:(2:Int)^64=18446744073709551616:=by decide
 have e:BitVec.ofInt 64 (0:Int)=0#64:=rfl
 rw [Zog,e,BitVec.xor_zero,BitVec.toNat_ofInt]
 omega
def sgV (z:Int):Int:=if z < 0 then iop .xor .u64 18446744073709551615 (iop .shl .u64 (IntKind.wrap .u64 z) 1) else iop .shl .u64 (IntKind.wrap .u64 z) 1
theorem ZjF (z:Int):0≤iop .shl .u64 (IntKind.wrap .u64 z) 1∧iop .shl .u64 (IntKind.wrap .u64 z) 1 < 2^64:=ZnR _
theorem Zcu (z:Int):0≤sgV z∧sgV z < 2^64:=by
 unfold sgV
 split
 ·rw [Zog]
  have h:=(BitVec.ofInt 64 18446744073709551615 ^^^ BitVec.ofInt 64 (iop .shl .u64 (IntKind.wrap .u64 z) 1)).isLt
  have:(2:Int)^64=((2^64:Nat):Int):=by decide
  omega
 ·exact ZjF z
theorem ZsC {z:Int} (h0 : -(2^63:Int)≤z) (h1:z < 2^63):iop .xor .u64 (iop .shl .u64 (IntKind.wrap .u64 z) 1) (IntKind.wrap .u64 (iop .shr .i64 z 63))=sgV z:=by
 have h63:(2:Int)^63=9223372036854775808:=by decide
 have e:iop .shr .i64 z 63=z / 2^63:=Zl0 (n:=63) (by decide)
 rw [e]
 unfold sgV
 by_cases hz:z < 0
 ·have e2:z / 2^63 = -1:=by omega
  have e3:IntKind.u64.wrap (-1)=18446744073709551615:=by decide
  rw [e2,e3,if_pos hz,ZlT]
 ·have e2:z / 2^63=0:=by omega
  have e3:IntKind.u64.wrap 0=0:=by decide
  rw [e2,e3,if_neg hz,Zl3 (ZjF z).1 (ZjF z).2]
def sgB (z:Int):List Int:=uv (sgV z).toNat
theorem ZEd (l:List Int) (hl:l.length≤80000000000) {z:Int} (h0 : -(2^63:Int)≤z) (h1:z < 2^63):ZBV (Zd l) z=some (Zd (l++sgB z)):=by
 have hr:=Zcu z
 have h64:(2:Int)^64=((2^64:Nat):Int):=by decide
 have e:sgV z=(((sgV z).toNat:Nat):Int):=by omega
 rw [Zt9,Zj (by decide),Zj (by decide),ZsC h0 h1,e,ZDo l (by omega) _ (by omega),Option.bind_some]
 rfl
theorem ZaT {α:Type} {F:Nat→List (List AV)→Int→Option (List (List AV))} {l:List α} (c:α→List Int) (b lim:Nat) (hn:l.length < 2^63) (hB:∀ x∈l,(c x).length≤b)
  (step:∀ (k i:Nat) (acc:List Int) (hi:i < l.length),acc.length≤lim→F (k+1) (Zd acc) (i:Int)=F k (Zd (acc++c l[i])) ((i+1:Nat):Int))
  (last:∀ (k i:Nat) (acc:List Int),l.length≤i→F (k+1) (Zd acc) (i:Int)=some (Zd acc)) (acc:List Int) (ha:acc.length+b*l.length≤lim) :
  F ZB (Zd acc) 0=some (Zd (acc++(l.map c).flatten)):=by
 have key:∀ (j i fuel:Nat) (acc:List Int),l.length≤i+j→j < fuel→acc.length+b*(l.length-i)≤lim→F fuel (Zd acc) (i:Int)=some (Zd (acc++((l.drop i).map c).flatten)):=by
  intro j
  induction j with
  | zero =>
   intro i fuel acc h hf _
   obtain ⟨f,rfl⟩:∃ f,fuel=f+1:=⟨fuel-1,by omega⟩
   rw [last f i acc (by omega),List.drop_of_length_le (by omega)]
   simp
  | succ j ih =>
   intro i fuel acc h hf hb
   obtain ⟨f,rfl⟩:∃ f,fuel=f+1:=⟨fuel-1,by omega⟩
   by_cases hi:i < l.length
   ·have hx:=hB _ (List.getElem_mem hi)
    have hm:b*(l.length-i)=b+b*(l.length-(i+1)):=by
     rw [show l.length-i=(l.length-(i+1))+1 by omega,Nat.mul_add,Nat.mul_one,Nat.add_comm]
    rw [step f i acc hi (by omega),ih (i+1) f (acc++c l[i]) (by omega) (by omega) (by rw [List.length_append];omega),List.drop_eq_getElem_cons hi,List.map_cons,List.flatten_cons,List.append_assoc]
   ·rw [last f i acc (by omega),List.drop_of_length_le (by omega)]
    simp
 have:=key l.length 0 ZB acc (by omega) (by have:=WJ hn;omega) (by simpa using ha)
 simpa using this
theorem ZsA (v:Nat):(uv v).length≤11:=by rw [Kj];exact ZaK v
def nB (z:Int):List Int:=uv z.toNat
theorem Z7 (z:Int):(nB z).length≤11:=ZsA _
theorem s38 (l:List Int) (hl:l.length≤80000000000) {z:Int} (h0:0≤z) (h1:z < 2^63):g38 (Zd l) z=some (Zd (l++nB z)):=by
 rw [Zvr,ZhG l (by omega) z h0 h1];rfl
structure Id.Small (i:Id):Prop where
 c0:0≤i.core
 c1:i.core < 2^40
 o0:0≤i.op
 o1:i.op < 2^40
 p0:0≤i.part
 p1:i.part < 2^40
theorem Zgv {i:Id} (h:VA i=true):i.Small:=by
 obtain ⟨h1,h2,h3,h4,h5,h6⟩:=ZjA h
 have:(2:Int)^40=1099511627776:=by decide
 exact ⟨h1,by omega,by omega,by omega,h5,by omega⟩
theorem Zgk:zid.Small:=⟨by decide,by decide,by decide,by decide,by decide,by decide⟩
theorem ZxR (l:List Int) (hl:l.length≤80000000000) {i:Id} (hi:i.Small):Zti (Zd l) i.core i.op i.part=some (Zd (l++idB i)):=by
 obtain ⟨h1,h2,h3,h4,h5,h6⟩:=hi
 obtain ⟨f,hf⟩:=ZoM
 have h63:(2:Int)^63=9223372036854775808:=by decide
 have h40:(2:Int)^40=1099511627776:=by decide
 have u1:=ZaK i.core.toNat
 have u2:=ZaK i.op.toNat
 have e:(((E0++[[AV.val (.int .i64 i.core)]])++[[AV.val (.int .i64 i.op)]])++[[AV.val (.int .i64 i.part)]]) = [Wo i.core,Wo i.op,Wo i.part]:=rfl
 have e1:iop .add .i64 0 1=1:=by decide
 have e2:iop .add .i64 1 1=2:=by decide
 have e3:iop .add .i64 2 1=3:=by decide
 have hlen:(([Wo i.core,Wo i.op,Wo i.part] : List (List AV)).length:Int)=3:=rfl
 rw [Ztj,ZmI,e,hf,hlen]
 rw [Y7,if_pos (by decide),Yq (sh:=[.int .i64]) (cs:=Wo i.core) (r:=i.core) _ (by decide) rfl rfl,ZhG l (by omega) i.core h1 (by omega),Option.bind_some,e1,
  Y7,if_pos (by decide),Yq (sh:=[.int .i64]) (cs:=Wo i.op) (r:=i.op) _ (by decide) rfl rfl,ZhG _ (by rw [List.length_append,Kj];omega) i.op (by omega) (by omega),Option.bind_some,e2,
  Y7,if_pos (by decide),Yq (sh:=[.int .i64]) (cs:=Wo i.part) (r:=i.part) _ (by decide) rfl rfl,ZhG _ (by rw [List.length_append,List.length_append,Kj,Kj];omega) i.part (by omega) (by omega),Option.bind_some,e3,
  Y7,if_neg (by decide),Option.bind_some]
 simp [idB,List.append_assoc]
end Go.Proofs.YtjldbnbdcmfbmaaGreat
end

section
namespace Go.Proofs.YtjldbnbdcmfbmaaGreat
open Go Go.AM
set_option linter.unusedSimpArgs false
set_option linter.unusedVariables false
set_option maxRecDepth 100000
def ZjN (c:Call):List Int:=((Yt c).map sgB).flatten
theorem Zra (z:Int):(sgB z).length≤11:=ZsA _
theorem Zbh {α:Type} (c:α→List Int) (b:Nat):∀ (l:List α),(∀ x∈l,(c x).length≤b)→((l.map c).flatten).length≤b*l.length
 | [], _ => by simp
 | x :: l, h => by
  have h1:=h x (by simp)
  have h2:=Zbh c b l fun y hy=>h y (by simp [hy])
  rw [List.map_cons,List.flatten_cons,List.length_append,List.length_cons,Nat.mul_add]
  omega
theorem Zk3 (c:Call):(ZjN c).length≤132:=Zbh sgB 11 (Yt c) fun x _=>Zra x
theorem ZDO (l:List Int) (hl:l.length+132≤80000000000) (c:Call) (hc:∀ z∈Yt c,Rng z):ZA0 (Zd l) c.kind c.slot c.dest c.core c.mask c.object c.bits c.level c.offset c.count c.index c.addr=some (Zd (l++ZjN c)):=by
 refine (ZuA ..).trans ?_
 show Zid ZB (Zd l) (Za (Yt c)) ((Yt c).length:Int) 0=_
 refine ZaT (F:=fun k a i=>Zid k a (Za (Yt c)) ((Yt c).length:Int) i) (l:=Yt c) sgB 11 80000000000 (show (Yt c).length < 2^63 by show 12 < 2^63;omega) (fun x _=>Zra x) (fun k i acc hi ha=>?_) (fun k i acc hi=>?_) l hl
 ·refine (ZgW ..).trans ?_
  have hz:=hc _ (List.getElem_mem hi)
  rw [if_pos (Z6 hi)]
  refine (Z3 hi _).trans ?_
  rw [ZEd acc ha hz.1 hz.2,Option.bind_some,Z1 hi (show (Yt c).length < 2^63 by show 12 < 2^63;omega)]
 ·refine (ZgW ..).trans ?_
  rw [if_neg (Z5 hi)]
theorem ZaM (n:J4):(Y9 n).length≤400:=by
 unfold Y9
 split
 ·rename_i h
  have hp:n.path.length≤8:=by
   simp only [ZR,Bool.and_eq_true,decide_eq_true_eq] at h
   exact h.1.2
  have h1:=KL n.id
  have h2:=ZsA n.path.length
  have h3:=Zbh idB 33 n.path fun x _=>KL x
  have h4:(J7 n.cap).length=10:=rfl
  unfold Ko
  rw [List.length_append,List.length_append,List.length_append]
  omega
 ·simp
def Kl (n:J4):List Int:=nB ((Y9 n).length:Int)++Y9 n
theorem Vl (n:J4):(Kl n).length≤411:=by
 have h1:=ZaM n
 have h2:=Z7 ((Y9 n).length:Int)
 unfold Kl
 rw [List.length_append]
 omega
theorem Zmd (a b:List Int):Zd a++Zd b=Zd (a++b):=by simp [Zd]
theorem Zyz (l:List Int) (hl:l.length≤80000000000) (n:J4) (hn:n.path.length < 2^63):ZuY (Zd l) n.id.core n.id.op n.id.part (Zb n.path) n.cap.kind n.cap.base n.cap.bits n.cap.rights n.cap.width n.cap.level n.cap.device=some (Zd (l++Kl n)):=by
 have h1:=ZaM n
 have h2:=Z7 ((Y9 n).length:Int)
 rw [ZrN,ZDw n hn,Option.bind_some]
 dsimp only
 rw [ZV,s38 l hl (by omega) (by omega),Option.bind_some,Zj (room1 (by rw [ZV,List.length_append];omega) (by rw [ZV];omega)),Zmd]
 unfold Kl
 rw [List.append_assoc]
def ZcJ (r:Req):List Int:=idB r.id++ZjN r.call++nB r.region++nB r.width++Kl r.src
theorem ZdG (r:Req):(ZcJ r).length≤598:=by
 have h1:=KL r.id
 have h2:=Zk3 r.call
 have h3:=Z7 r.region
 have h4:=Z7 r.width
 have h5:=Vl r.src
 unfold ZcJ
 rw [List.length_append,List.length_append,List.length_append,List.length_append]
 omega
structure Req.Good (r:Req):Prop where
 id:r.id.Small
 call:∀ z∈Yt r.call,Rng z
 reg0:0≤r.region
 reg1:r.region < 2^63
 wid0:0≤r.width
 wid1:r.width < 2^63
 path:r.src.path.length < 2^63
theorem ZC2 (l:List Int) (hl:l.length+598≤80000000000) (r:Req) (h:r.Good):Zzr (Zd l) r.id.core r.id.op r.id.part r.call.kind r.call.slot r.call.dest r.call.core r.call.mask r.call.object r.call.bits r.call.level r.call.offset r.call.count r.call.index r.call.addr r.region r.width r.src.id.core r.src.id.op r.src.id.part (Zb r.src.path) r.src.cap.kind r.src.cap.base r.src.cap.bits r.src.cap.rights r.src.cap.width r.src.cap.level r.src.cap.device=some (Zd (l++ZcJ r)):=by
 have h1:=KL r.id
 have h2:=Zk3 r.call
 have h3:=Z7 r.region
 have h4:=Z7 r.width
 rw [ZtA,ZxR l (by omega) h.id,Option.bind_some,ZDO _ (by rw [List.length_append];omega) r.call h.call,Option.bind_some,s38 _ (by rw [List.length_append,List.length_append];omega) h.reg0 h.reg1,Option.bind_some,s38 _ (by rw [List.length_append,List.length_append,List.length_append];omega) h.wid0 h.wid1,Option.bind_some,Zyz _ (by rw [List.length_append,List.length_append,List.length_append,List.length_append];omega) r.src h.path,Option.bind_some]
 unfold ZcJ
 simp only [List.append_assoc]
def bB (b:Bool):List Int:=if b=true then nB 1 else nB 0
theorem ZDq (l:List Int) (hl:l.length≤80000000000) (b:Bool):ZyC (Zd l) b=some (Zd (l++bB b)):=by
 rw [Zty]
 cases b with
 | true => rw [if_pos rfl, s38 l hl (by decide) (by decide)]; rfl
 | false => rw [if_neg Bool.false_ne_true, s38 l hl (by decide) (by decide)]; rfl
def Zas (m:Zff):List Int:=nB m.region++nB m.to
theorem Zf6 (m:Zff):(Zas m).length≤22:=by
 have h1:=Z7 m.region
 have h2:=Z7 m.to
 unfold Zas
 rw [List.length_append]
 omega
def ZE {α:Type} (c:α→List Int) (xs:List α):List Int:=nB (xs.length:Int)++(xs.map c).flatten
theorem ZD7 (l:List Int) (xs:List J4) (hl:l.length+11+411*xs.length≤79999999978) (hx:xs.length < 2^63) (h:∀ x∈xs,x.path.length < 2^63):ZCB (Zd l) (xs.map ZT)=some (Zd (l++ZE Kl xs)):=by
 have h1:=Z7 (xs.length:Int)
 refine (Zue ..).trans ?_
 rw [List.length_map,s38 l (by omega) (by omega) (by omega),Option.bind_some]
 unfold ZE
 rw [← List.append_assoc]
 refine ZaT (F:=fun k a i=>ZkB k a (xs.map ZT) (xs.length:Int) i) (l:=xs) Kl 411 79999999978 hx (fun x _=>Vl x) (fun k i acc hi ha=>?_) (fun k i acc hi=>?_) _ (by rw [List.length_append];omega)
 ·refine (Zgs ..).trans ?_
  have hz:=h _ (List.getElem_mem hi)
  rw [if_pos (Z6 hi)]
  refine (KG hi _).trans ?_
  simp only [ZlO,d2,d4,d8,d16]
  rw [Zyz acc (by omega) _ hz,Option.bind_some,Z1 hi hx]
 ·refine (Zgs ..).trans ?_
  rw [if_neg (Z5 hi)]
theorem ZCY (l:List Int) (xs:List Id) (hl:l.length+11+33*xs.length≤79999999978) (hx:xs.length < 2^63) (h:∀ x∈xs,x.Small):Zy1 (Zd l) (Zb xs)=some (Zd (l++ZE idB xs)):=by
 have h1:=Z7 (xs.length:Int)
 refine (ZrA ..).trans ?_
 rw [ZU,s38 l (by omega) (by omega) (by omega),Option.bind_some]
 unfold ZE
 rw [← List.append_assoc]
 refine ZaT (F:=fun k a i=>Zj2 k a (Zb xs) (xs.length:Int) i) (l:=xs) idB 33 79999999978 hx (fun x _=>KL x) (fun k i acc hi ha=>?_) (fun k i acc hi=>?_) _ (by rw [List.length_append];omega)
 ·refine (Zgx ..).trans ?_
  have hz:=h _ (List.getElem_mem hi)
  rw [if_pos (Z6 hi)]
  refine (ZaP hi _).trans ?_
  dsimp only
  rw [ZxR acc (by omega) hz,Option.bind_some,Z1 hi hx]
 ·refine (Zgx ..).trans ?_
  rw [if_neg (Z5 hi)]
theorem ZAy (l:List Int) (xs:List Int) (hl:l.length+11+11*xs.length≤79999999978) (hx:xs.length < 2^63) (h:∀ x∈xs,0≤x∧x < 2^63):Zv6 (Zd l) (Za xs)=some (Zd (l++ZE nB xs)):=by
 have h1:=Z7 (xs.length:Int)
 refine (Zrv ..).trans ?_
 rw [Z4,s38 l (by omega) (by omega) (by omega),Option.bind_some]
 unfold ZE
 rw [← List.append_assoc]
 refine ZaT (F:=fun k a i=>ZjV k a (Za xs) (xs.length:Int) i) (l:=xs) nB 11 79999999978 hx (fun x _=>Z7 x) (fun k i acc hi ha=>?_) (fun k i acc hi=>?_) _ (by rw [List.length_append];omega)
 ·refine (ZhN ..).trans ?_
  have hz:=h _ (List.getElem_mem hi)
  rw [if_pos (Z6 hi)]
  refine (Z3 hi _).trans ?_
  rw [s38 acc (by omega) hz.1 hz.2,Option.bind_some,Z1 hi hx]
 ·refine (ZhN ..).trans ?_
  rw [if_neg (Z5 hi)]
theorem ZDL (l:List Int) (xs:List Zff) (hl:l.length+11+22*xs.length≤79999999978) (hx:xs.length < 2^63) (h:∀ x∈xs,(0≤x.region∧x.region < 2^63)∧0≤x.to∧x.to < 2^63):ZzY (Zd l) (xs.map ZZ)=some (Zd (l++ZE Zas xs)):=by
 have h1:=Z7 (xs.length:Int)
 refine (ZrF ..).trans ?_
 rw [List.length_map,s38 l (by omega) (by omega) (by omega),Option.bind_some]
 unfold ZE
 rw [← List.append_assoc]
 refine ZaT (F:=fun k a i=>Zkc k a (xs.map ZZ) (xs.length:Int) i) (l:=xs) Zas 22 79999999978 hx (fun x _=>Zf6 x) (fun k i acc hi ha=>?_) (fun k i acc hi=>?_) _ (by rw [List.length_append];omega)
 ·refine (Zig ..).trans ?_
  have hz:=h _ (List.getElem_mem hi)
  rw [if_pos (Z6 hi)]
  refine (Kq hi _).trans ?_
  dsimp only
  have b1:=Z7 xs[i].region
  rw [s38 acc (by omega) hz.1.1 hz.1.2,Option.bind_some,s38 _ (by rw [List.length_append];omega) hz.2.1 hz.2.2,Option.bind_some,Z1 hi hx,List.append_assoc]
  rfl
 ·refine (Zig ..).trans ?_
  rw [if_neg (Z5 hi)]
end Go.Proofs.YtjldbnbdcmfbmaaGreat
end

section
namespace Go.Proofs.YtjldbnbdcmfbmaaGreat
open Go Go.AM
set_option linter.unusedSimpArgs false
set_option linter.unusedVariables false
set_option maxRecDepth 100000
theorem KJ {α γ:Type} {F:Nat→List (List AV)→Int→Option γ} {l:List α} (c:α→List Int) (G:List Int→Option γ) (b lim:Nat) (hn:l.length < 2^63) (hB:∀ x∈l,(c x).length≤b)
  (step:∀ (k i:Nat) (acc:List Int) (hi:i < l.length),acc.length≤lim→F (k+1) (Zd acc) (i:Int)=F k (Zd (acc++c l[i])) ((i+1:Nat):Int))
  (last:∀ (k i:Nat) (acc:List Int),l.length≤i→acc.length≤lim→F (k+1) (Zd acc) (i:Int)=G acc) (acc:List Int) (ha:acc.length+b*l.length≤lim) :
  F ZB (Zd acc) 0=G (acc++(l.map c).flatten):=by
 have key:∀ (j i fuel:Nat) (acc:List Int),l.length≤i+j→j < fuel→acc.length+b*(l.length-i)≤lim→F fuel (Zd acc) (i:Int)=G (acc++((l.drop i).map c).flatten):=by
  intro j
  induction j with
  | zero =>
   intro i fuel acc h hf hb
   obtain ⟨f,rfl⟩:∃ f,fuel=f+1:=⟨fuel-1,by omega⟩
   rw [last f i acc (by omega) (by omega),List.drop_of_length_le (by omega)]
   simp
  | succ j ih =>
   intro i fuel acc h hf hb
   obtain ⟨f,rfl⟩:∃ f,fuel=f+1:=⟨fuel-1,by omega⟩
   by_cases hi:i < l.length
   ·have hx:=hB _ (List.getElem_mem hi)
    have hm:b*(l.length-i)=b+b*(l.length-(i+1)):=by
     rw [show l.length-i=(l.length-(i+1))+1 by omega,Nat.mul_add,Nat.mul_one,Nat.add_comm]
    rw [step f i acc hi (by omega),ih (i+1) f (acc++c l[i]) (by omega) (by omega) (by rw [List.length_append];omega),List.drop_eq_getElem_cons hi,List.map_cons,List.flatten_cons,List.append_assoc]
   ·rw [last f i acc (by omega) (by omega),List.drop_of_length_le (by omega)]
    simp
 have:=key l.length 0 ZB acc (by omega) (by have:=WJ hn;omega) (by simpa using ha)
 simpa using this
def Vc (s:YS):List Int:=Kl s.node++nB s.op++idB s.lock
def K7 (m:ZbD):List Int:=nB m.region++idB m.op
def ZdN (a:Ans):List Int:=nB a.op++nB a.err
def Zcn (e:ZD):List Int:=nB e.core++nB e.slot++Kl e.node
theorem Zfj (s:YS):(Vc s).length≤455:=by
 have h1:=Vl s.node
 have h2:=Z7 s.op
 have h3:=KL s.lock
 unfold Vc
 rw [List.length_append,List.length_append]
 omega
theorem Zgr (m:ZbD):(K7 m).length≤44:=by
 have h2:=Z7 m.region
 have h3:=KL m.op
 unfold K7
 rw [List.length_append]
 omega
theorem Zi3 (a:Ans):(ZdN a).length≤22:=by
 have h2:=Z7 a.op
 have h3:=Z7 a.err
 unfold ZdN
 rw [List.length_append]
 omega
theorem Ziz (e:ZD):(Zcn e).length≤433:=by
 have h1:=Vl e.node
 have h2:=Z7 e.core
 have h3:=Z7 e.slot
 unfold Zcn
 rw [List.length_append,List.length_append]
 omega
def N63 (z:Int):Prop:=0≤z∧z < 2^63
structure Jv.Good (s:Jv):Prop where
 slots:s.slots.length≤2097152
 pending:s.pending.length≤2097152
 marks:s.marks.length≤2097152
 answers:s.answers.length≤2097152
 entries:s.entries.length≤2097152
 commits:s.commits.length≤2097152
 slot:∀ x∈s.slots,x.node.path.length < 2^63∧N63 x.op∧x.lock.Small
 req:∀ x∈s.pending,x.Good
 mark:∀ x∈s.marks,N63 x.region∧x.op.Small
 ans:∀ x∈s.answers,N63 x.op∧N63 x.err
 entry:∀ x∈s.entries,N63 x.core∧N63 x.slot∧x.node.path.length < 2^63
 commit:∀ x∈s.commits,x.Small
def KI (s:Jv):List Int:=ZE Vc s.slots++(ZE ZcJ s.pending++(ZE K7 s.marks++(ZE ZdN s.answers++(ZE Zcn s.entries++ZE idB s.commits))))
theorem ZX {α:Type} (c:α→List Int) (b n:Nat) (l:List α) (h:∀ x∈l,(c x).length≤b) (hn:l.length≤n):(ZE c l).length≤11+b*n:=by
 have h1:=Z7 (l.length:Int)
 have h2:=Zbh c b l h
 have h3:b*l.length≤b*n:=Nat.mul_le_mul_left b hn
 unfold ZE
 rw [List.length_append]
 omega
theorem Zal (s:Jv) (h:s.Good):(KI s).length≤3400000000:=by
 have h1:=ZX Vc 455 _ s.slots (fun x _=>Zfj x) h.slots
 have h2:=ZX ZcJ 598 _ s.pending (fun x _=>ZdG x) h.pending
 have h3:=ZX K7 44 _ s.marks (fun x _=>Zgr x) h.marks
 have h4:=ZX ZdN 22 _ s.answers (fun x _=>Zi3 x) h.answers
 have h5:=ZX Zcn 433 _ s.entries (fun x _=>Ziz x) h.entries
 have h6:=ZX idB 33 _ s.commits (fun x _=>KL x) h.commits
 unfold KI
 rw [List.length_append,List.length_append,List.length_append,List.length_append,List.length_append]
 omega
theorem ZAH (l:List Int) (hl:l.length≤60000000000) (s:Jv) (h:s.Good):ZwX (Zd l) (s.slots.map Zh) (s.pending.map Zt) (s.marks.map Zi) (s.answers.map Zy) (s.entries.map Zf) (Zb s.commits)=some (Zd (l++KI s)):=by
 have L0:∀ acc:List Int,acc.length≤70000000000→ZgU ZB (Zd acc) (s.slots.map Zh) (s.pending.map Zt) (s.marks.map Zi) (s.answers.map Zy) (s.entries.map Zf) (Zb s.commits) (s.entries.map Zf) (s.entries.length:Int) 0=some (Zd ((acc++(s.entries.map Zcn).flatten)++(ZE idB s.commits))):=by
  intro acc hacc
  have hln:=h.entries
  have hn:s.entries.length < 2^63:=by omega
  refine KJ (F:=fun k a i=>ZgU k a (s.slots.map Zh) (s.pending.map Zt) (s.marks.map Zi) (s.answers.map Zy) (s.entries.map Zf) (Zb s.commits) (s.entries.map Zf) (s.entries.length:Int) i) (l:=s.entries) Zcn (fun acc=>some (Zd (acc++(ZE idB s.commits)))) 433 71900000000 hn (fun x _=>Ziz x) (fun k i acc hi ha=>?_) (fun k i acc hi ha=>?_) acc (by omega)
  ·refine (Zg1 ..).trans ?_
   have hz:=h.entry _ (List.getElem_mem hi)
   have b1:=Z7 s.entries[i].core
   have b2:=Z7 s.entries[i].slot
   rw [if_pos (Z6 hi)]
   refine (Zo hi _).trans ?_
   try simp only [Zo hi,Yl,d2,d4,d8,d16]
   rw [s38 acc (by omega) hz.1.1 hz.1.2,Option.bind_some,s38 _ (by rw [List.length_append];omega) hz.2.1.1 hz.2.1.2,Option.bind_some,Zyz _ (by rw [List.length_append,List.length_append];omega) _ hz.2.2,Option.bind_some,Z1 hi hn]
   try simp only [Zcn,List.append_assoc]
  ·refine (Zg1 ..).trans ?_
   rw [if_neg (Z5 hi)]
   rw [ZCY acc s.commits (by have:=h.commits;omega) (by have:=h.commits;omega) h.commit]
   rfl
 have L1:∀ acc:List Int,acc.length≤68000000000→Zhm ZB (Zd acc) (s.slots.map Zh) (s.pending.map Zt) (s.marks.map Zi) (s.answers.map Zy) (s.entries.map Zf) (Zb s.commits) (s.answers.map Zy) (s.answers.length:Int) 0=some (Zd ((acc++(s.answers.map ZdN).flatten)++(ZE Zcn s.entries++(ZE idB s.commits)))):=by
  intro acc hacc
  have hln:=h.answers
  have hn:s.answers.length < 2^63:=by omega
  refine KJ (F:=fun k a i=>Zhm k a (s.slots.map Zh) (s.pending.map Zt) (s.marks.map Zi) (s.answers.map Zy) (s.entries.map Zf) (Zb s.commits) (s.answers.map Zy) (s.answers.length:Int) i) (l:=s.answers) ZdN (fun acc=>some (Zd (acc++(ZE Zcn s.entries++(ZE idB s.commits))))) 22 69900000000 hn (fun x _=>Zi3 x) (fun k i acc hi ha=>?_) (fun k i acc hi ha=>?_) acc (by omega)
  ·refine (ZhH ..).trans ?_
   have hz:=h.ans _ (List.getElem_mem hi)
   have b1:=Z7 s.answers[i].op
   rw [if_pos (Z6 hi)]
   refine (YB hi _).trans ?_
   try simp only [YB hi,d2,d4,d8,d16]
   rw [s38 acc (by omega) hz.1.1 hz.1.2,Option.bind_some,s38 _ (by rw [List.length_append];omega) hz.2.1 hz.2.2,Option.bind_some,Z1 hi hn]
   try simp only [ZdN,List.append_assoc]
  ·refine (ZhH ..).trans ?_
   rw [if_neg (Z5 hi)]
   have b1:=Z7 (s.entries.length:Int)
   have b2:=h.entries
   rw [List.length_map,s38 acc (by omega) (by omega) (by omega),Option.bind_some,L0 _ (by rw [List.length_append];omega)]
   simp only [ZE,List.append_assoc]
 have L2:∀ acc:List Int,acc.length≤66000000000→Zhh ZB (Zd acc) (s.slots.map Zh) (s.pending.map Zt) (s.marks.map Zi) (s.answers.map Zy) (s.entries.map Zf) (Zb s.commits) (s.marks.map Zi) (s.marks.length:Int) 0=some (Zd ((acc++(s.marks.map K7).flatten)++(ZE ZdN s.answers++(ZE Zcn s.entries++(ZE idB s.commits))))):=by
  intro acc hacc
  have hln:=h.marks
  have hn:s.marks.length < 2^63:=by omega
  refine KJ (F:=fun k a i=>Zhh k a (s.slots.map Zh) (s.pending.map Zt) (s.marks.map Zi) (s.answers.map Zy) (s.entries.map Zf) (Zb s.commits) (s.marks.map Zi) (s.marks.length:Int) i) (l:=s.marks) K7 (fun acc=>some (Zd (acc++(ZE ZdN s.answers++(ZE Zcn s.entries++(ZE idB s.commits)))))) 44 67900000000 hn (fun x _=>Zgr x) (fun k i acc hi ha=>?_) (fun k i acc hi ha=>?_) acc (by omega)
  ·refine (Zhy ..).trans ?_
   have hz:=h.mark _ (List.getElem_mem hi)
   have b1:=Z7 s.marks[i].region
   rw [if_pos (Z6 hi)]
   refine (Yb hi _).trans ?_
   try simp only [Yb hi,d2,d4,d8,d16]
   rw [s38 acc (by omega) hz.1.1 hz.1.2,Option.bind_some,ZxR _ (by rw [List.length_append];omega) hz.2,Option.bind_some,Z1 hi hn]
   try simp only [K7,List.append_assoc]
  ·refine (Zhy ..).trans ?_
   rw [if_neg (Z5 hi)]
   have b1:=Z7 (s.answers.length:Int)
   have b2:=h.answers
   rw [List.length_map,s38 acc (by omega) (by omega) (by omega),Option.bind_some,L1 _ (by rw [List.length_append];omega)]
   simp only [ZE,List.append_assoc]
 have L3:∀ acc:List Int,acc.length≤64000000000→Zh3 ZB (Zd acc) (s.slots.map Zh) (s.pending.map Zt) (s.marks.map Zi) (s.answers.map Zy) (s.entries.map Zf) (Zb s.commits) (s.pending.map Zt) (s.pending.length:Int) 0=some (Zd ((acc++(s.pending.map ZcJ).flatten)++(ZE K7 s.marks++(ZE ZdN s.answers++(ZE Zcn s.entries++(ZE idB s.commits)))))):=by
  intro acc hacc
  have hln:=h.pending
  have hn:s.pending.length < 2^63:=by omega
  refine KJ (F:=fun k a i=>Zh3 k a (s.slots.map Zh) (s.pending.map Zt) (s.marks.map Zi) (s.answers.map Zy) (s.entries.map Zf) (Zb s.commits) (s.pending.map Zt) (s.pending.length:Int) i) (l:=s.pending) ZcJ (fun acc=>some (Zd (acc++(ZE K7 s.marks++(ZE ZdN s.answers++(ZE Zcn s.entries++(ZE idB s.commits))))))) 598 65900000000 hn (fun x _=>ZdG x) (fun k i acc hi ha=>?_) (fun k i acc hi ha=>?_) acc (by omega)
  ·refine (Zhg ..).trans ?_
   have hz:=h.req _ (List.getElem_mem hi)
   skip
   rw [if_pos (Z6 hi)]
   refine (Ym hi _).trans ?_
   try simp only [Ym hi,ZuI,d2,d4,d8,d16]
   rw [ZC2 acc (by omega) _ hz,Option.bind_some,Z1 hi hn]
   try simp only [List.append_assoc]
  ·refine (Zhg ..).trans ?_
   rw [if_neg (Z5 hi)]
   have b1:=Z7 (s.marks.length:Int)
   have b2:=h.marks
   rw [List.length_map,s38 acc (by omega) (by omega) (by omega),Option.bind_some,L2 _ (by rw [List.length_append];omega)]
   simp only [ZE,List.append_assoc]
 have L4:∀ acc:List Int,acc.length≤62000000000→Zhu ZB (Zd acc) (s.slots.map Zh) (s.pending.map Zt) (s.marks.map Zi) (s.answers.map Zy) (s.entries.map Zf) (Zb s.commits) (s.slots.map Zh) (s.slots.length:Int) 0=some (Zd ((acc++(s.slots.map Vc).flatten)++(ZE ZcJ s.pending++(ZE K7 s.marks++(ZE ZdN s.answers++(ZE Zcn s.entries++(ZE idB s.commits))))))):=by
  intro acc hacc
  have hln:=h.slots
  have hn:s.slots.length < 2^63:=by omega
  refine KJ (F:=fun k a i=>Zhu k a (s.slots.map Zh) (s.pending.map Zt) (s.marks.map Zi) (s.answers.map Zy) (s.entries.map Zf) (Zb s.commits) (s.slots.map Zh) (s.slots.length:Int) i) (l:=s.slots) Vc (fun acc=>some (Zd (acc++(ZE ZcJ s.pending++(ZE K7 s.marks++(ZE ZdN s.answers++(ZE Zcn s.entries++(ZE idB s.commits)))))))) 455 63900000000 hn (fun x _=>Zfj x) (fun k i acc hi ha=>?_) (fun k i acc hi ha=>?_) acc (by omega)
  ·refine (ZgD ..).trans ?_
   have hz:=h.slot _ (List.getElem_mem hi)
   have b1:=Vl s.slots[i].node
   have b2:=Z7 s.slots[i].op
   rw [if_pos (Z6 hi)]
   refine (Yd hi _).trans ?_
   try simp only [Yd hi,Zlx,d2,d4,d8,d16]
   rw [Zyz acc (by omega) _ hz.1,Option.bind_some,s38 _ (by rw [List.length_append];omega) hz.2.1.1 hz.2.1.2,Option.bind_some,ZxR _ (by rw [List.length_append,List.length_append];omega) hz.2.2,Option.bind_some,Z1 hi hn]
   try simp only [Vc,List.append_assoc]
  ·refine (ZgD ..).trans ?_
   rw [if_neg (Z5 hi)]
   have b1:=Z7 (s.pending.length:Int)
   have b2:=h.pending
   rw [List.length_map,s38 acc (by omega) (by omega) (by omega),Option.bind_some,L3 _ (by rw [List.length_append];omega)]
   simp only [ZE,List.append_assoc]
 have hln:=h.slots
 have b1:=Z7 (s.slots.length:Int)
 refine (Zr8 ..).trans ?_
 rw [List.length_map,s38 l (by omega) (by omega) (by omega),Option.bind_some,L4 _ (by rw [List.length_append];omega)]
 simp only [KI,ZE,List.append_assoc]
structure Vu.Good (v:Vu):Prop where
 num:N63 v.number
 members:v.members.length≤2097152
 owners:v.owners.length≤2097152
 member:∀ x∈v.members,0≤x∧x < 2^63
 owner:∀ x∈v.owners,0≤x∧x < 2^63
def Zaj (v:Vu):List Int:=nB v.number++(ZE nB v.members++ZE nB v.owners)
theorem Za6 (v:Vu) (h:v.Good):(Zaj v).length≤50000000:=by
 have h1:=Z7 v.number
 have h2:=ZX nB 11 _ v.members (fun x _=>Z7 x) h.members
 have h3:=ZX nB 11 _ v.owners (fun x _=>Z7 x) h.owners
 unfold Zaj
 rw [List.length_append,List.length_append]
 omega
theorem ZBx (l:List Int) (hl:l.length≤70000000000) (v:Vu) (h:v.Good):ZxQ (Zd l) v.number (Za v.members) (Za v.owners)=some (Zd (l++Zaj v)):=by
 have h1:=Z7 v.number
 have h2:=ZX nB 11 _ v.members (fun x _=>Z7 x) h.members
 have h3:=h.members
 have h4:=h.owners
 rw [Zt0,s38 l (by omega) h.num.1 h.num.2,Option.bind_some,ZAy _ _ (by rw [List.length_append];omega) (by omega) h.member,Option.bind_some,ZAy _ _ (by rw [List.length_append,List.length_append];omega) (by omega) h.owner,Option.bind_some]
 simp only [Zaj,List.append_assoc]
structure Jl.Good (r:Jl):Prop where
 core:N63 r.core
 view:r.view.Good
 state:r.state.Good
 next:r.next.Good
 proposal:r.proposal.Good
def Zml (r:Jl):List Int:=nB r.core++(Zaj r.view++(KI r.state++(bB r.ready++(Zaj r.next++KI r.proposal))))
theorem ZoJ (b:Bool):(bB b).length≤11:=by
 unfold bB
 split
 ·exact Z7 1
 ·exact Z7 0
theorem ZrR (r:Jl) (h:r.Good):(Zml r).length≤7000000000:=by
 have h1:=Z7 r.core
 have h2:=Za6 _ h.view
 have h3:=Zal _ h.state
 have h4:=ZoJ r.ready
 have h5:=Za6 _ h.next
 have h6:=Zal _ h.proposal
 unfold Zml
 rw [List.length_append,List.length_append,List.length_append,List.length_append,List.length_append]
 omega
theorem ZDY (l:List Int) (hl:l.length≤50000000000) (r:Jl) (h:r.Good):ZBY (Zd l) r.core r.view.number (Za r.view.members) (Za r.view.owners) (r.state.slots.map Zh) (r.state.pending.map Zt) (r.state.marks.map Zi) (r.state.answers.map Zy) (r.state.entries.map Zf) (Zb r.state.commits) r.ready r.next.number (Za r.next.members) (Za r.next.owners) (r.proposal.slots.map Zh) (r.proposal.pending.map Zt) (r.proposal.marks.map Zi) (r.proposal.answers.map Zy) (r.proposal.entries.map Zf) (Zb r.proposal.commits)=some (Zd (l++Zml r)):=by
 have h1:=Z7 r.core
 have h2:=Za6 _ h.view
 have h3:=Zal _ h.state
 have h4:=ZoJ r.ready
 have h5:=Za6 _ h.next
 rw [Ztg,s38 l (by omega) h.core.1 h.core.2,Option.bind_some,ZBx _ (by rw [List.length_append];omega) _ h.view,Option.bind_some,ZAH _ (by rw [List.length_append,List.length_append];omega) _ h.state,Option.bind_some,ZDq _ (by rw [List.length_append,List.length_append,List.length_append];omega),Option.bind_some,ZBx _ (by rw [List.length_append,List.length_append,List.length_append,List.length_append];omega) _ h.next,Option.bind_some,ZAH _ (by rw [List.length_append,List.length_append,List.length_append,List.length_append,List.length_append];omega) _ h.proposal,Option.bind_some]
 simp only [Zml,List.append_assoc]
end Go.Proofs.YtjldbnbdcmfbmaaGreat
end

section
namespace Go.Proofs.YtjldbnbdcmfbmaaGreat
open Go Go.AM
set_option linter.unusedSimpArgs false
set_option linter.unusedVariables false
set_option maxRecDepth 100000
structure Msg.Good (m:Msg):Prop where
 kind:N63 m.kind
 view:N63 m.view
 frm:N63 m.frm
 to:N63 m.to
 round:N63 m.round
 region:N63 m.region
 slot:N63 m.slot
 op:m.op.Small
 err:N63 m.err
 req:m.req.Good
 idsn:m.ids.length≤2097152
 ids:∀ x∈m.ids,x.Small
 nodesn:m.nodes.length≤2097152
 nodes:∀ x∈m.nodes,x.path.length < 2^63
 coresn:m.cores.length≤2097152
 cores:∀ x∈m.cores,0≤x∧x < 2^63
 movesn:m.moves.length≤2097152
 moves:∀ x∈m.moves,(0≤x.region∧x.region < 2^63)∧0≤x.to∧x.to < 2^63
 base:N63 m.base
 next:m.next.Good
 state:m.state.Good
 report:m.report.Good
def Yf (m:Msg):Nat→List Int
 | 0 => nB m.region
 | 1 => ZcJ m.req
 | 2 => idB m.op
 | 3 => nB m.err
 | 4 => bB m.settled
 | 5 => ZE Kl m.nodes
 | 6 => nB m.slot
 | 7 => ZE idB m.ids
 | 8 => nB m.round
 | 9 => ZE nB m.cores
 | 10 => Zml m.report
 | 11 => nB m.base
 | 12 => Zaj m.next
 | 13 => KI m.state
 | 14 => ZE Zas m.moves
 | _ => []
theorem ZoK (m:Msg) (h:m.Good) (f:Nat):(Yf m f).length≤7000000000:=by
 have b5:=ZX Kl 411 _ m.nodes (fun x _=>Vl x) h.nodesn
 have b7:=ZX idB 33 _ m.ids (fun x _=>KL x) h.idsn
 have b9:=ZX nB 11 _ m.cores (fun x _=>Z7 x) h.coresn
 have b14:=ZX Zas 22 _ m.moves (fun x _=>Zf6 x) h.movesn
 have b10:=ZrR _ h.report
 have b12:=Za6 _ h.next
 have b13:=Zal _ h.state
 have b1:=ZdG m.req
 have b2:=KL m.op
 have b4:=ZoJ m.settled
 have b0:=Z7 m.region
 have b3:=Z7 m.err
 have b6:=Z7 m.slot
 have b8:=Z7 m.round
 have b11:=Z7 m.base
 unfold Yf
 split<;>first | omega | simp
theorem s39 (m:Msg) (h:m.Good) (l:List Int) (hl:l.length≤50000000000):∀ f:Nat,f < 15→g39 (Zd l) m.kind m.view m.frm m.to m.round m.region m.slot m.op.core m.op.op m.op.part m.err m.settled m.req.id.core m.req.id.op m.req.id.part m.req.call.kind m.req.call.slot m.req.call.dest m.req.call.core m.req.call.mask m.req.call.object m.req.call.bits m.req.call.level m.req.call.offset m.req.call.count m.req.call.index m.req.call.addr m.req.region m.req.width m.req.src.id.core m.req.src.id.op m.req.src.id.part (Zb m.req.src.path) m.req.src.cap.kind m.req.src.cap.base m.req.src.cap.bits m.req.src.cap.rights m.req.src.cap.width m.req.src.cap.level m.req.src.cap.device (Zb m.ids) (m.nodes.map ZT) (Za m.cores) (m.moves.map ZZ) m.base m.next.number (Za m.next.members) (Za m.next.owners) (m.state.slots.map Zh) (m.state.pending.map Zt) (m.state.marks.map Zi) (m.state.answers.map Zy) (m.state.entries.map Zf) (Zb m.state.commits) m.report.core m.report.view.number (Za m.report.view.members) (Za m.report.view.owners) (m.report.state.slots.map Zh) (m.report.state.pending.map Zt) (m.report.state.marks.map Zi) (m.report.state.answers.map Zy) (m.report.state.entries.map Zf) (Zb m.report.state.commits) m.report.ready m.report.next.number (Za m.report.next.members) (Za m.report.next.owners) (m.report.proposal.slots.map Zh) (m.report.proposal.pending.map Zt) (m.report.proposal.marks.map Zi) (m.report.proposal.answers.map Zy) (m.report.proposal.entries.map Zf) (Zb m.report.proposal.commits) (f:Int)=some (Zd (l++Yf m f))
 | 0, _ => (KU ..).trans (congrArg (fun x => Option.bind x some) (s38 l (by omega) h.region.1 h.region.2))
 | 1, _ => (KU ..).trans (congrArg (fun x => Option.bind x some) (ZC2 l (by omega) _ h.req))
 | 2, _ => (KU ..).trans (congrArg (fun x => Option.bind x some) (ZxR l (by omega) h.op))
 | 3, _ => (KU ..).trans (congrArg (fun x => Option.bind x some) (s38 l (by omega) h.err.1 h.err.2))
 | 4, _ => (KU ..).trans (congrArg (fun x => Option.bind x some) (ZDq l (by omega) _))
 | 5, _ => (KU ..).trans (congrArg (fun x => Option.bind x some) (ZD7 l _ (by have := h.nodesn; omega) (by have := h.nodesn; omega) h.nodes))
 | 6, _ => (KU ..).trans (congrArg (fun x => Option.bind x some) (s38 l (by omega) h.slot.1 h.slot.2))
 | 7, _ => (KU ..).trans (congrArg (fun x => Option.bind x some) (ZCY l _ (by have := h.idsn; omega) (by have := h.idsn; omega) h.ids))
 | 8, _ => (KU ..).trans (congrArg (fun x => Option.bind x some) (s38 l (by omega) h.round.1 h.round.2))
 | 9, _ => (KU ..).trans (congrArg (fun x => Option.bind x some) (ZAy l _ (by have := h.coresn; omega) (by have := h.coresn; omega) h.cores))
 | 10, _ => (KU ..).trans (congrArg (fun x => Option.bind x some) (ZDY l hl _ h.report))
 | 11, _ => (KU ..).trans (congrArg (fun x => Option.bind x some) (s38 l (by omega) h.base.1 h.base.2))
 | 12, _ => (KU ..).trans (congrArg (fun x => Option.bind x some) (ZBx l (by omega) _ h.next))
 | 13, _ => (KU ..).trans (congrArg (fun x => Option.bind x some) (ZAH l (by omega) _ h.state))
 | 14, _ => (KU ..).trans (congrArg (fun x => Option.bind x some) (ZDL l _ (by have := h.movesn; omega) (by have := h.movesn; omega) h.moves))
def ZlJ (m:Msg):List Int:=nB m.kind++(nB m.view++(nB m.frm++nB m.to))
def ZdP (m:Msg):List Int:=ZlJ m++((kf m.kind.toNat).map (Yf m)).flatten
theorem ZnO (n:Nat):(kf n).length≤5:=by unfold kf;split<;>simp
theorem ZDE (m:Msg) (h:m.Good) (L:List Nat) (hL:∀ f∈L,f < 15) (hn:L.length≤5) (acc:List Int) (ha:acc.length≤10000000000) :
  Zn5 ZB m.kind m.view m.frm m.to m.round m.region m.slot m.op.core m.op.op m.op.part m.err m.settled m.req.id.core m.req.id.op m.req.id.part m.req.call.kind m.req.call.slot m.req.call.dest m.req.call.core m.req.call.mask m.req.call.object m.req.call.bits m.req.call.level m.req.call.offset m.req.call.count m.req.call.index m.req.call.addr m.req.region m.req.width m.req.src.id.core m.req.src.id.op m.req.src.id.part (Zb m.req.src.path) m.req.src.cap.kind m.req.src.cap.base m.req.src.cap.bits m.req.src.cap.rights m.req.src.cap.width m.req.src.cap.level m.req.src.cap.device (Zb m.ids) (m.nodes.map ZT) (Za m.cores) (m.moves.map ZZ) m.base m.next.number (Za m.next.members) (Za m.next.owners) (m.state.slots.map Zh) (m.state.pending.map Zt) (m.state.marks.map Zi) (m.state.answers.map Zy) (m.state.entries.map Zf) (Zb m.state.commits) m.report.core m.report.view.number (Za m.report.view.members) (Za m.report.view.owners) (m.report.state.slots.map Zh) (m.report.state.pending.map Zt) (m.report.state.marks.map Zi) (m.report.state.answers.map Zy) (m.report.state.entries.map Zf) (Zb m.report.state.commits) m.report.ready m.report.next.number (Za m.report.next.members) (Za m.report.next.owners) (m.report.proposal.slots.map Zh) (m.report.proposal.pending.map Zt) (m.report.proposal.marks.map Zi) (m.report.proposal.answers.map Zy) (m.report.proposal.entries.map Zf) (Zb m.report.proposal.commits) (fc L) (L.length:Int) 0 (Zd acc)=some (Zd (acc++(L.map (Yf m)).flatten),0):=by
 refine KJ (F:=fun k a i=>Zn5 k m.kind m.view m.frm m.to m.round m.region m.slot m.op.core m.op.op m.op.part m.err m.settled m.req.id.core m.req.id.op m.req.id.part m.req.call.kind m.req.call.slot m.req.call.dest m.req.call.core m.req.call.mask m.req.call.object m.req.call.bits m.req.call.level m.req.call.offset m.req.call.count m.req.call.index m.req.call.addr m.req.region m.req.width m.req.src.id.core m.req.src.id.op m.req.src.id.part (Zb m.req.src.path) m.req.src.cap.kind m.req.src.cap.base m.req.src.cap.bits m.req.src.cap.rights m.req.src.cap.width m.req.src.cap.level m.req.src.cap.device (Zb m.ids) (m.nodes.map ZT) (Za m.cores) (m.moves.map ZZ) m.base m.next.number (Za m.next.members) (Za m.next.owners) (m.state.slots.map Zh) (m.state.pending.map Zt) (m.state.marks.map Zi) (m.state.answers.map Zy) (m.state.entries.map Zf) (Zb m.state.commits) m.report.core m.report.view.number (Za m.report.view.members) (Za m.report.view.owners) (m.report.state.slots.map Zh) (m.report.state.pending.map Zt) (m.report.state.marks.map Zi) (m.report.state.answers.map Zy) (m.report.state.entries.map Zf) (Zb m.report.state.commits) m.report.ready m.report.next.number (Za m.report.next.members) (Za m.report.next.owners) (m.report.proposal.slots.map Zh) (m.report.proposal.pending.map Zt) (m.report.proposal.marks.map Zi) (m.report.proposal.answers.map Zy) (m.report.proposal.entries.map Zf) (Zb m.report.proposal.commits) (fc L) (L.length:Int) i a) (l:=L) (Yf m) (fun acc=>some (Zd acc,0)) 7000000000 50000000000 (by omega) (fun x _=>ZoK m h x) (fun k i acc hi ha=>?_) (fun k i acc hi ha=>?_) acc (by omega)
 ·refine (Zkt ..).trans ?_
  rw [if_pos (Z6 hi)]
  refine (ZjE hi _).trans ?_
  rw [s39 m h acc ha _ (hL _ (List.getElem_mem hi)),Option.bind_some,Z1 hi (by omega)]
 ·refine (Zkt ..).trans ?_
  rw [if_neg (Z5 hi)]
theorem s14 (m:Msg) (hf:m.Fits) (h:Ka m=true→m.Good):g14 m.kind m.view m.frm m.to m.round m.region m.slot m.op.core m.op.op m.op.part m.err m.settled m.req.id.core m.req.id.op m.req.id.part m.req.call.kind m.req.call.slot m.req.call.dest m.req.call.core m.req.call.mask m.req.call.object m.req.call.bits m.req.call.level m.req.call.offset m.req.call.count m.req.call.index m.req.call.addr m.req.region m.req.width m.req.src.id.core m.req.src.id.op m.req.src.id.part (Zb m.req.src.path) m.req.src.cap.kind m.req.src.cap.base m.req.src.cap.bits m.req.src.cap.rights m.req.src.cap.width m.req.src.cap.level m.req.src.cap.device (Zb m.ids) (m.nodes.map ZT) (Za m.cores) (m.moves.map ZZ) m.base m.next.number (Za m.next.members) (Za m.next.owners) (m.state.slots.map Zh) (m.state.pending.map Zt) (m.state.marks.map Zi) (m.state.answers.map Zy) (m.state.entries.map Zf) (Zb m.state.commits) m.report.core m.report.view.number (Za m.report.view.members) (Za m.report.view.owners) (m.report.state.slots.map Zh) (m.report.state.pending.map Zt) (m.report.state.marks.map Zi) (m.report.state.answers.map Zy) (m.report.state.entries.map Zf) (Zb m.report.state.commits) m.report.ready m.report.next.number (Za m.report.next.members) (Za m.report.next.owners) (m.report.proposal.slots.map Zh) (m.report.proposal.pending.map Zt) (m.report.proposal.marks.map Zi) (m.report.proposal.answers.map Zy) (m.report.proposal.entries.map Zf) (Zb m.report.proposal.commits)=some (if Ka m=true then (Zd (ZdP m),0) else (E0,1)):=by
 rw [ZvU,s12 m hf,Option.bind_some]
 cases hv:Ka m with
 | false => rfl
 | true =>
  have hg:=h hv
  rw [if_neg (by simp),if_pos rfl]
  have hk:1≤m.kind∧m.kind≤17:=by
   unfold Ka headOk kindOk at hv
   simp only [Bool.and_eq_true,decide_eq_true_eq] at hv
   exact hv.1.1.1.1
  obtain ⟨n,hn⟩:∃ n:Nat,m.kind=n:=⟨m.kind.toNat,by omega⟩
  have e19:g32 m.kind=some (fc (kf n),true):=by rw [hn];exact s32 n (by omega) (by omega)
  have hk2:m.kind.toNat=n:=by omega
  have hlen:(fc (kf n)).length=(kf n).length:=List.length_map _
  have e:=KJ (F:=fun k a i=>ZpN k m.kind m.view m.frm m.to m.round m.region m.slot m.op.core m.op.op m.op.part m.err m.settled m.req.id.core m.req.id.op m.req.id.part m.req.call.kind m.req.call.slot m.req.call.dest m.req.call.core m.req.call.mask m.req.call.object m.req.call.bits m.req.call.level m.req.call.offset m.req.call.count m.req.call.index m.req.call.addr m.req.region m.req.width m.req.src.id.core m.req.src.id.op m.req.src.id.part (Zb m.req.src.path) m.req.src.cap.kind m.req.src.cap.base m.req.src.cap.bits m.req.src.cap.rights m.req.src.cap.width m.req.src.cap.level m.req.src.cap.device (Zb m.ids) (m.nodes.map ZT) (Za m.cores) (m.moves.map ZZ) m.base m.next.number (Za m.next.members) (Za m.next.owners) (m.state.slots.map Zh) (m.state.pending.map Zt) (m.state.marks.map Zi) (m.state.answers.map Zy) (m.state.entries.map Zf) (Zb m.state.commits) m.report.core m.report.view.number (Za m.report.view.members) (Za m.report.view.owners) (m.report.state.slots.map Zh) (m.report.state.pending.map Zt) (m.report.state.marks.map Zi) (m.report.state.answers.map Zy) (m.report.state.entries.map Zf) (Zb m.report.state.commits) m.report.ready m.report.next.number (Za m.report.next.members) (Za m.report.next.owners) (m.report.proposal.slots.map Zh) (m.report.proposal.pending.map Zt) (m.report.proposal.marks.map Zi) (m.report.proposal.answers.map Zy) (m.report.proposal.entries.map Zf) (Zb m.report.proposal.commits) (Za [m.kind,m.view,m.frm,m.to]) (([m.kind,m.view,m.frm,m.to] : List Int).length:Int) i a) (l:=[m.kind,m.view,m.frm,m.to]) nB (fun acc=>some (Zd (acc++((kf n).map (Yf m)).flatten),0)) 11 1000 (by simp) (fun x _=>Z7 x)
   (fun k i acc hi ha=>by
    refine (ZkW ..).trans ?_
    have hz:N63 ([m.kind,m.view,m.frm,m.to] : List Int)[i]:=by
     have:=List.getElem_mem hi
     simp only [List.mem_cons,List.not_mem_nil,or_false] at this
     rcases this with e | e | e | e
     ·rw [e];exact hg.kind
     ·rw [e];exact hg.view
     ·rw [e];exact hg.frm
     ·rw [e];exact hg.to
    rw [if_pos (Z6 hi)]
    refine (Z3 hi _).trans ?_
    rw [s38 acc (by omega) hz.1 hz.2,Option.bind_some,Z1 hi (by simp)])
   (fun k i acc hi ha=>by
    refine (ZkW ..).trans ?_
    rw [if_neg (Z5 hi),e19,Option.bind_some]
    dsimp only
    rw [hlen,ZDE m hg (kf n) (Zsr n) (ZnO n) acc (by omega)])
   [] (by simp)
  refine Eq.trans e ?_
  simp only [ZdP,ZlJ,hk2,List.map_cons,List.map_nil,List.flatten_cons,List.flatten_nil,List.nil_append,List.append_nil,List.append_assoc]
end Go.Proofs.YtjldbnbdcmfbmaaGreat
end

section
namespace Go.Proofs.YtjldbnbdcmfbmaaGreat
open Go Go.AM
set_option linter.unusedSimpArgs false
set_option linter.unusedVariables false
set_option maxRecDepth 100000
theorem ZD5 {z:Int} (h:(Lit.int .i64 z).wf=true):Rng z:=by
 have h1:IntKind.i64.min = -9223372036854775808:=by decide
 have h2:IntKind.i64.max=9223372036854775807:=by decide
 have h3:(2:Int)^63=9223372036854775808:=by decide
 simp [Lit.wf,h1,h2] at h
 unfold Rng
 omega
theorem WB {d:Nat} {cs:List AV} (h:TyZ Tryz.prog (d+1) 3 cs):∃ z,cs = [I z]∧Rng z:=by
 simp only [TyZ,Tryz.underlying3] at h
 obtain ⟨z,h,hw⟩:=h
 exact ⟨z,h,ZD5 hw⟩
theorem Zm0 {d:Nat} {cs:List AV} (h:TyZ Tryz.prog (d+1) 4 cs):∃ z,cs = [B z]:=by
 simp only [TyZ,Tryz.underlying4] at h
 exact h
theorem Zta:Tryz.prog.cellsOf 3=1:=by kernel_rfl
structure Jv.Sized (s:Jv):Prop where
 slots:s.slots.length < 2^44
 pending:s.pending.length < 2^44
 marks:s.marks.length < 2^44
 answers:s.answers.length < 2^44
 entries:s.entries.length < 2^44
 commits:s.commits.length < 2^44
 slot:∀ x∈s.slots,x.node.path.length < 2^44
 req:∀ x∈s.pending,x.src.path.length < 2^44∧∀ z∈Yt x.call,Rng z
 entry:∀ x∈s.entries,x.node.path.length < 2^44
structure Vu.Sized (v:Vu):Prop where
 members:v.members.length < 2^44
 owners:v.owners.length < 2^44
structure Jl.Sized (r:Jl):Prop where
 view:r.view.Sized
 state:r.state.Sized
 next:r.next.Sized
 proposal:r.proposal.Sized
structure Msg.Sized (m:Msg):Prop where
 req:m.req.src.path.length < 2^44
 call:∀ z∈Yt m.req.call,Rng z
 ids:m.ids.length < 2^44
 nodes:m.nodes.length < 2^44
 node:∀ x∈m.nodes,x.path.length < 2^44
 cores:m.cores.length < 2^44
 moves:m.moves.length < 2^44
 next:m.next.Sized
 state:m.state.Sized
 report:m.report.Sized
theorem ZdM {n:Nat} (h:n < 2^44):n < 2^63:=by omega
theorem Jv.Sized.fits {s:Jv} (h:s.Sized):s.Fits:=⟨ZdM h.slots,ZdM h.pending,ZdM h.marks,ZdM h.answers,ZdM h.entries,ZdM h.commits,fun x hx=>ZdM (h.slot x hx),fun x hx=>ZdM (h.req x hx).1,fun x hx=>ZdM (h.entry x hx)⟩
theorem Vu.Sized.fits {v:Vu} (h:v.Sized):v.Fits:=⟨ZdM h.members,ZdM h.owners⟩
theorem Jl.Sized.fits {r:Jl} (h:r.Sized):r.Fits:=⟨h.view.fits,h.state.fits,h.next.fits,h.proposal.fits⟩
theorem Msg.Sized.fits {m:Msg} (h:m.Sized):m.Fits:=⟨ZdM h.req,ZdM h.ids,ZdM h.nodes,fun x hx=>ZdM (h.node x hx),ZdM h.cores,ZdM h.moves,h.next.fits,h.state.fits,h.report.fits⟩
end Go.Proofs.YtjldbnbdcmfbmaaGreat
end

section
namespace Go.Proofs.YtjldbnbdcmfbmaaGreat
open Go Go.AM
set_option linter.unusedSimpArgs false
set_option linter.unusedVariables false
set_option maxRecDepth 100000
end Go.Proofs.YtjldbnbdcmfbmaaGreat
end

section
namespace Go.Proofs.YtjldbnbdcmfbmaaGreat
open Go Go.AM
set_option linter.unusedSimpArgs false
set_option linter.unusedVariables false
set_option maxRecDepth 100000
structure Jv.Short (s:Jv):Prop where
 slots:s.slots.length≤2000000
 pending:s.pending.length≤2000000
 marks:s.marks.length≤2000000
 answers:s.answers.length≤2000000
 entries:s.entries.length≤2000000
 commits:s.commits.length≤2000000
structure Msg.Short (m:Msg):Prop where
 ids:m.ids.length≤2000000
 nodes:m.nodes.length≤2000000
 cores:m.cores.length≤2000000
 moves:m.moves.length≤2000000
 nm:m.next.members.length≤2000000
 no:m.next.owners.length≤2000000
 rvm:m.report.view.members.length≤2000000
 rvo:m.report.view.owners.length≤2000000
 rnm:m.report.next.members.length≤2000000
 rno:m.report.next.owners.length≤2000000
 state:m.state.Short
 rs:m.report.state.Short
 rp:m.report.proposal.Short
theorem n63 {z a:Int} (h0:0≤z) (h1:z≤1099511627776):N63 z:=by
 have:(2:Int)^63=9223372036854775808:=by decide
 exact ⟨h0,by omega⟩
theorem ZaU {i:Id} (h:ZdQ i=true):i.Small:=by
 simp only [ZdQ,Bool.and_eq_true] at h
 exact Zgv h.1
theorem ZqP {z:Int} (h:Yc z=true):N63 z:=by have:=of_decide_eq_true h;exact n63 (a:=0) (by omega) (by omega)
theorem ZbH {z:Int} (h:Jh z=true):N63 z:=by have:=of_decide_eq_true h;exact n63 (a:=0) (by omega) (by omega)
theorem Zq1 {z:Int} (h:ZbU z=true):N63 z:=by have:=of_decide_eq_true h;exact n63 (a:=0) (by omega) (by omega)
theorem ZvT {z:Int} (h:Zd1 z=true):N63 z:=by have:=of_decide_eq_true h;exact n63 (a:=0) (by omega) (by omega)
theorem Zqf {z:Int} (h:YQ z=true):N63 z:=by have:=of_decide_eq_true h;exact n63 (a:=0) (by omega) (by omega)
theorem Zdj:N63 0:=⟨by decide,by decide⟩
theorem ZjR {r:Req} (hp:r.src.path.length < 2^44) (hc:∀ z∈Yt r.call,Rng z) (h:K8 r=true):r.Good:=by
 simp only [K8,Bool.and_eq_true,decide_eq_true_eq] at h
 obtain ⟨⟨⟨⟨h1,h2⟩,h3⟩,h4⟩,h5⟩:=h
 have hr:=ZqP h3
 have h63:(2:Int)^63=9223372036854775808:=by decide
 exact ⟨ZaU h1,hc,hr.1,hr.2,by omega,by omega,ZdM hp⟩
theorem ZqB {r:Req} (hp:r.src.path.length < 2^44) (hc:∀ z∈Yt r.call,Rng z) (h:ZtW r=true):r.Good:=by
 simp only [ZtW,Bool.and_eq_true,decide_eq_true_eq] at h
 obtain ⟨⟨⟨⟨h1,h2⟩,h3⟩,h4⟩,h5⟩:=h
 have h63:(2:Int)^63=9223372036854775808:=by decide
 exact ⟨by rw [h1];exact Zgk,hc,by omega,by omega,by omega,by omega,ZdM hp⟩
theorem Zbn {s:Jv} (hz:s.Sized) (hs:s.Short) (h:YC s=true):s.Good:=by
 simp only [YC,Bool.and_eq_true,List.all_eq_true] at h
 obtain ⟨⟨⟨⟨⟨h1,h2⟩,h3⟩,h4⟩,h5⟩,h6⟩:=h
 have a1:=hs.slots
 have a2:=hs.pending
 have a3:=hs.marks
 have a4:=hs.answers
 have a5:=hs.entries
 have a6:=hs.commits
 have hslot:s.slots.all Zcr=true:=by
  simp only [VY,Bool.and_eq_true] at h1
  rw [ZmM,Bool.and_eq_true,Zk9] at h1
  exact h1.2.1
 rw [List.all_eq_true] at hslot
 refine ⟨by omega,by omega,by omega,by omega,by omega,by omega,fun x hx=>?_,fun x hx=>ZjR (hz.req x hx).1 (hz.req x hx).2 (h2.1 x hx),fun x hx=>?_,fun x hx=>?_,fun x hx=>?_,fun x hx=>ZaU (h6 x hx)⟩
 ·have h:=hslot x hx
  simp only [Zcr,Bool.and_eq_true,decide_eq_true_eq] at h
  obtain ⟨ho,hi⟩:=h
  refine ⟨ZdM (hz.slot x hx),n63 (a:=0) (by omega) (by omega),?_⟩
  split at hi
  ·simp only [Bool.and_eq_true,decide_eq_true_eq] at hi
   rw [hi.2];exact Zgk
  ·simp only [Bool.and_eq_true,Bool.or_eq_true,decide_eq_true_eq] at hi
   rcases hi.2 with e | e
   ·rw [e];exact Zgk
   ·exact ZaU e
 ·have h:=h3.1 x hx
  simp only [K9,Bool.and_eq_true] at h
  exact ⟨ZqP h.1,ZaU h.2⟩
 ·have h:=h4.1 x hx
  simp only [Zbz,Bool.and_eq_true,decide_eq_true_eq] at h
  exact ⟨n63 (a:=0) (by omega) (by omega),ZvT h.2⟩
 ·have h:=h5.1 x hx
  simp only [ZaQ,Bool.and_eq_true] at h
  exact ⟨ZbH h.1.1,Zq1 h.1.2,ZdM (hz.entry x hx)⟩
theorem KS {α:Type} {l:List α} (h:l.length=0) {p:α→Prop} : ∀ x∈l,p x:=by
 rw [List.length_eq_zero_iff.1 h];intro x hx;cases hx
theorem Zbv {s:Jv} (hs:s.Short) (h:WE s=true):s.Good:=by
 simp only [WE,Bool.and_eq_true,decide_eq_true_eq] at h
 obtain ⟨⟨⟨⟨⟨h1,h2⟩,h3⟩,h4⟩,h5⟩,h6⟩:=h
 exact ⟨by omega,by omega,by omega,by omega,by omega,by omega,KS h1,KS h2,KS h3,KS h4,KS h5,KS h6⟩
theorem ZcO {v:Vu} (h:V1 v=true) (hm:v.members.length≤2000000) (ho:v.owners.length≤2000000):v.Good:=by
 simp only [V1,Bool.and_eq_true,decide_eq_true_eq] at h
 obtain ⟨⟨⟨⟨h1,h2⟩,h3⟩,h4⟩,h5⟩:=h
 rw [ZmM,Bool.and_eq_true,Zk9] at h4
 exact ⟨Zqf h1,by omega,by omega,fun x hx=>ZbH (List.all_eq_true.1 h4.1 x hx),fun x hx=>ZbH (List.all_eq_true.1 h5 x hx)⟩
theorem Zdt {v:Vu} (h:Zcz v=true):v.Good:=by
 simp only [Zcz,Bool.and_eq_true,decide_eq_true_eq] at h
 obtain ⟨⟨h1,h2⟩,h3⟩:=h
 exact ⟨by rw [h1];exact Zdj,by omega,by omega,KS h2,KS h3⟩
theorem Zfe {m:Msg} (hz:m.Sized) (hs:m.Short) (h:Ka m=true):m.Good:=by
 simp only [Ka,headOk,Bool.and_eq_true] at h
 obtain ⟨⟨⟨⟨k1,k2⟩,k3⟩,k4⟩,hf,hr⟩:=h
 have hk:=of_decide_eq_true k1
 have fo:∀ f,f < 15→ZK m f=true∨zf m f=true:=by
  intro f hf'
  by_cases hc:f∈kf m.kind.toNat
  ·exact .inl (List.all_eq_true.1 hf f hc)
  ·exact .inr (ZrL hr f hf' (by simpa using hc))
 have i0:=hs.ids
 have i1:=hs.nodes
 have i2:=hs.cores
 have i3:=hs.moves
 refine ⟨n63 (a:=0) (by omega) (by omega),Zqf k2,ZbH k3,ZbH k4,?_,?_,?_,?_,?_,?_,by omega,?_,by omega,fun x hx=>ZdM (hz.node x hx),by omega,?_,by omega,?_,?_,?_,?_,?_⟩
 ·rcases fo 8 (by omega) with e | e
  ·exact Zqf e
  ·rw [show m.round=0 from of_decide_eq_true e];exact Zdj
 ·rcases fo 0 (by omega) with e | e
  ·exact ZqP e
  ·rw [show m.region=0 from of_decide_eq_true e];exact Zdj
 ·rcases fo 6 (by omega) with e | e
  ·exact Zq1 e
  ·rw [show m.slot=0 from of_decide_eq_true e];exact Zdj
 ·rcases fo 2 (by omega) with e | e
  ·exact ZaU e
  ·rw [show m.op=zid from of_decide_eq_true e];exact Zgk
 ·rcases fo 3 (by omega) with e | e
  ·exact ZvT e
  ·rw [show m.err=0 from of_decide_eq_true e];exact Zdj
 ·rcases fo 1 (by omega) with e | e
  ·exact ZjR hz.req hz.call e
  ·exact ZqB hz.req hz.call e
 ·rcases fo 7 (by omega) with e | e
  ·have e:(decide (m.ids.length≤64)&&m.ids.all VA)=true:=e
   simp only [Bool.and_eq_true,List.all_eq_true] at e
   exact fun x hx=>Zgv (e.2 x hx)
  ·exact KS (of_decide_eq_true e)
 ·rcases fo 9 (by omega) with e | e
  ·have e:(m.cores.all Jh&&VM ltI m.cores)=true:=e
   simp only [Bool.and_eq_true,List.all_eq_true] at e
   exact fun x hx=>ZbH (e.1 x hx)
  ·exact KS (of_decide_eq_true e)
 ·rcases fo 14 (by omega) with e | e
  ·have e:(decide (m.moves.length≤16)&&m.moves.all V3)=true:=e
   simp only [Bool.and_eq_true,List.all_eq_true,V3] at e
   exact fun x hx=>⟨ZqP (e.2 x hx).1,ZbH (e.2 x hx).2⟩
  ·exact KS (of_decide_eq_true e)
 ·rcases fo 11 (by omega) with e | e
  ·exact Zqf e
  ·rw [show m.base=0 from of_decide_eq_true e];exact Zdj
 ·rcases fo 12 (by omega) with e | e
  ·exact ZcO e hs.nm hs.no
  ·exact Zdt e
 ·rcases fo 13 (by omega) with e | e
  ·exact Zbn hz.state hs.state e
  ·exact Zbv hs.state e
 ·rcases fo 10 (by omega) with e | e
  ·have e:Zfd m.report=true:=e
   simp only [Zfd,Bool.and_eq_true] at e
   exact ⟨ZbH e.1.1.1.1,ZcO e.1.1.1.2 hs.rvm hs.rvo,Zbn hz.report.state hs.rs e.1.1.2,ZcO e.1.2 hs.rnm hs.rno,Zbn hz.report.proposal hs.rp e.2⟩
  ·have e:W5 m.report=true:=e
   simp only [W5,Bool.and_eq_true,decide_eq_true_eq] at e
   exact ⟨by rw [e.1.1.1.1.1];exact Zdj,Zdt e.1.1.1.1.2,Zbv hs.rs e.1.1.1.2,Zdt e.1.2,Zbv hs.rp e.2⟩
end Go.Proofs.YtjldbnbdcmfbmaaGreat
end

section
namespace Go.Proofs.YtjldbnbdcmfbmaaGreat
open Go Go.AM
set_option linter.unusedSimpArgs false
set_option linter.unusedVariables false
set_option maxRecDepth 100000
theorem Jp {a b:List Int} (ha:Zv a) (hb:Zv b):Zv (a++b):=fun z hz=>(List.mem_append.1 hz).elim (ha z) (hb z)
theorem Zre:Zv []:=fun z hz=>by cases hz
theorem Zf2 {α:Type} (c:α→List Int) (h:∀ x,Zv (c x)) (l:List α):Zv (l.map c).flatten:=by
 intro z hz
 obtain ⟨a,ha,hza⟩:=List.mem_flatten.1 hz
 obtain ⟨x,_,rfl⟩:=List.mem_map.1 ha
 exact h x z hza
theorem Zbj (z:Int):Zv (nB z):=Wl _
theorem Zh7 (i:Id):Zv (idB i):=Jp (Jp (Wl _) (Wl _)) (Wl _)
theorem ZsM (c:Call):Zv (ZjN c):=Zf2 sgB (fun x=>Wl _) _
theorem ZxA (c:Cap) (h:Yu c=true):Zv (J7 c):=by
 obtain ⟨h1,h2,h3,h4,h5,h6,h7,h8,h9,h10,h11,h12⟩:=Zgh h
 intro z hz
 simp only [J7,List.mem_cons,List.not_mem_nil,or_false] at hz
 rcases hz with rfl | rfl | rfl | rfl | rfl | rfl | rfl | rfl | rfl | rfl
 ·omega
 ·omega
 ·split<;>omega
 all_goals omega
theorem Zpr (n:J4):Zv (Y9 n):=by
 unfold Y9
 split
 ·rename_i h
  have hc:Yu n.cap=true:=by
   simp only [ZR,Bool.and_eq_true] at h
   exact h.1.1.2
  exact Jp (Jp (Jp (Zh7 _) (Wl _)) (Zf2 idB Zh7 _)) (ZxA n.cap hc)
 ·exact Zre
theorem Zfh (n:J4):Zv (Kl n):=Jp (Zbj _) (Zpr n)
theorem Zq4 (r:Req):Zv (ZcJ r):=Jp (Jp (Jp (Jp (Zh7 _) (ZsM _)) (Zbj _)) (Zbj _)) (Zfh _)
theorem Zuo (s:YS):Zv (Vc s):=Jp (Jp (Zfh _) (Zbj _)) (Zh7 _)
theorem ZuF (m:ZbD):Zv (K7 m):=Jp (Zbj _) (Zh7 _)
theorem Zv5 (m:Ans):Zv (ZdN m):=Jp (Zbj _) (Zbj _)
theorem ZxS (e:ZD):Zv (Zcn e):=Jp (Jp (Zbj _) (Zbj _)) (Zfh _)
theorem ZsL (m:Zff):Zv (Zas m):=Jp (Zbj _) (Zbj _)
theorem Kd {α:Type} (c:α→List Int) (h:∀ x,Zv (c x)) (l:List α):Zv (ZE c l):=Jp (Zbj _) (Zf2 c h l)
theorem ZfY (s:Jv):Zv (KI s):=Jp (Kd _ Zuo _) (Jp (Kd _ Zq4 _) (Jp (Kd _ ZuF _) (Jp (Kd _ Zv5 _) (Jp (Kd _ ZxS _) (Kd _ Zh7 _)))))
theorem Zja (v:Vu):Zv (Zaj v):=Jp (Zbj _) (Jp (Kd _ Zbj _) (Kd _ Zbj _))
theorem ZDh (b:Bool):Zv (bB b):=by
 unfold bB
 split
 ·exact Zbj 1
 ·exact Zbj 0
theorem ZwV (r:Jl):Zv (Zml r):=Jp (Zbj _) (Jp (Zja _) (Jp (ZfY _) (Jp (ZDh _) (Jp (Zja _) (ZfY _)))))
theorem Zo3 (m:Msg) (f:Nat):Zv (Yf m f):=by
 unfold Yf
 split
 ·exact Zbj _
 ·exact Zq4 _
 ·exact Zh7 _
 ·exact Zbj _
 ·exact ZDh _
 ·exact Kd _ Zfh _
 ·exact Zbj _
 ·exact Kd _ Zh7 _
 ·exact Zbj _
 ·exact Kd _ Zbj _
 ·exact ZwV _
 ·exact Zbj _
 ·exact Zja _
 ·exact ZfY _
 ·exact Kd _ ZsL _
 ·exact Zre
theorem Zlh (m:Msg):Zv (ZdP m):=Jp (Jp (Zbj _) (Jp (Zbj _) (Jp (Zbj _) (Zbj _)))) (Zf2 _ (Zo3 m) _)
end Go.Proofs.YtjldbnbdcmfbmaaGreat
end

section
namespace Go.Proofs.YtjldbnbdcmfbmaaGreat
open Go Go.AM
set_option linter.unusedSimpArgs false
set_option linter.unusedVariables false
set_option maxRecDepth 100000
theorem Zxj {a b:Int} (ha:0≤a) (hb:0≤b) (ha2:a < 2^62) (hb2:b < 2^62):iop .or .i64 a b=((a.toNat||| b.toNat:Nat):Int):=by
 have e62:(2:Int)^62=4611686018427387904:=by decide
 rw [e62] at ha2 hb2
 show IntKind.wrap .i64 (((BitVec.ofInt 64 a||| BitVec.ofInt 64 b).toNat:Nat):Int)=_
 have h64:(2:Nat)^64=18446744073709551616:=by decide
 have h1:(BitVec.ofInt 64 a).toNat=a.toNat:=by rw [BitVec.toNat_ofInt,h64];omega
 have h2:(BitVec.ofInt 64 b).toNat=b.toNat:=by rw [BitVec.toNat_ofInt,h64];omega
 rw [BitVec.toNat_or,h1,h2]
 have hlt:a.toNat||| b.toNat < 2^62:=Nat.or_lt_two_pow (by
  have:(2:Nat)^62=4611686018427387904:=by decide
  omega) (by
  have:(2:Nat)^62=4611686018427387904:=by decide
  omega)
 have h62:(2:Nat)^62=4611686018427387904:=by decide
 have e63:(2:Int)^63=9223372036854775808:=by decide
 exact KO (by omega) (by omega)
theorem Zbb {a b:Int} {n:Nat} (hn:n≤40) (ha:0≤a) (ha2:a < 2^n) (hb:0≤b) (hb2:b≤255):iop .or .i64 a (b*2^n)=a+b*2^n:=by
 have hp:=JM n
 have hle:(2:Int)^n≤2^40:=ZfC hn
 have e40:(2:Int)^40=1099511627776:=by decide
 have e62:(2:Int)^62=4611686018427387904:=by decide
 have hm:b*2^n≤255*2^n:=Int.mul_le_mul_of_nonneg_right hb2 (by omega)
 have hm0:0≤b*2^n:=Int.mul_nonneg hb (by omega)
 rw [Zxj ha hm0 (by omega) (by omega)]
 have hbn:(b*2^n).toNat=b.toNat <<< n:=by
  rw [Nat.shiftLeft_eq]
  have:((b.toNat*2^n:Nat):Int)=b*2^n:=by
   rw [Int.natCast_mul,Int.natCast_pow]
   have:((b.toNat:Nat):Int)=b:=by omega
   rw [this]
   rfl
  omega
 have hlt:a.toNat < 2^n:=by
  have:((2^n:Nat):Int)=2^n:=by rw [Int.natCast_pow];rfl
  omega
 have:=Nat.shiftLeft_add_eq_or_of_lt hlt b.toNat
 rw [Nat.or_comm,hbn,← this,← hbn]
 omega
theorem K5 {z:Int} (h0:0≤z) (h1:z≤255):IntKind.wrap .i64 z=z:=KO (by
 have e63:(2:Int)^63=9223372036854775808:=by decide
 omega) (by
 have e63:(2:Int)^63=9223372036854775808:=by decide
 omega)
theorem ZmY {z:Int} (n:Nat) (h0:0≤z) (h1:z≤255) (hn:n≤40):iop .shl .i64 z ((n:Nat):Int)=z*2^n:=by
 have hp:=JM n
 have hle:(2:Int)^n≤2^40:=ZfC hn
 have e40:(2:Int)^40=1099511627776:=by decide
 have e63:(2:Int)^63=9223372036854775808:=by decide
 have hm:z*2^n≤255*2^n:=Int.mul_le_mul_of_nonneg_right h1 (by omega)
 have:=Zsc (a:=z) (b:=(n:Int)) (by omega) (by omega) h0 (by rw [Int.toNat_natCast];omega)
 rw [Int.toNat_natCast] at this
 exact this
def Yz:List Int→Cap
 | [b0, b1, b2, b3, b4, b5, b6, b7, b8, b9] => ⟨b0, b5 + b6 * 256 + b7 * 65536 + b8 * 16777216 + b9 * 4294967296, b1, b2 % 8, b3, b4, decide (8 ≤ b2)⟩
 | _ => ⟨0, 0, 0, 0, 0, 0, false⟩
def Zbr (L:List Int):Bool:=decide (L.length=10)&&decide (L.getD 2 0≤15)&&Yu (Yz L)
def Zh5 (L:List Int):Int×Int×Int×Int×Int×Int×Bool×Int:=
 if Zbr L=true then ((Yz L).kind,(Yz L).base,(Yz L).bits,(Yz L).rights,(Yz L).width,(Yz L).level,(Yz L).device,0) else (0,0,0,0,0,0,false,14)
theorem Zoh {r:Int} (h0:0≤r) (h1:r≤15):iop .and .u8 r 7=r % 8∧cop .neq (iop .and .u8 r 8) 0=decide (8≤r):=by
 rcases (by omega:r=0∨r=1∨r=2∨r=3∨r=4∨r=5∨r=6∨r=7∨r=8∨r=9∨r=10∨r=11∨r=12∨r=13∨r=14∨r=15) with
  rfl | rfl | rfl | rfl | rfl | rfl | rfl | rfl | rfl | rfl | rfl | rfl | rfl | rfl | rfl | rfl<;>decide
theorem ZD3 {L:List Int} (hb:Zv L) (hl:L.length≤1000000):ZBL (Zd L)=some (Zh5 L):=by
 rw [Zui,ZV]
 by_cases h10:L.length=10
 ·rw [if_neg (by simp only [CQ];omega)]
  obtain ⟨b0,b1,b2,b3,b4,b5,b6,b7,b8,b9,rfl⟩:∃ b0 b1 b2 b3 b4 b5 b6 b7 b8 b9,L = [b0,b1,b2,b3,b4,b5,b6,b7,b8,b9]:=by
   match L,h10 with
   | [b0, b1, b2, b3, b4, b5, b6, b7, b8, b9], _ => exact ⟨b0, b1, b2, b3, b4, b5, b6, b7, b8, b9, rfl⟩
  obtain ⟨a0,c0⟩:=hb b0 (by simp)
  obtain ⟨a1,c1⟩:=hb b1 (by simp)
  obtain ⟨a2,c2⟩:=hb b2 (by simp)
  obtain ⟨a3,c3⟩:=hb b3 (by simp)
  obtain ⟨a4,c4⟩:=hb b4 (by simp)
  obtain ⟨a5,c5⟩:=hb b5 (by simp)
  obtain ⟨a6,c6⟩:=hb b6 (by simp)
  obtain ⟨a7,c7⟩:=hb b7 (by simp)
  obtain ⟨a8,c8⟩:=hb b8 (by simp)
  obtain ⟨a9,c9⟩:=hb b9 (by simp)
  rw [JG (z:=b2) _ (by decide) rfl]
  by_cases h15:b2≤15
  ·obtain ⟨f,hf⟩:=ZoM
   obtain ⟨k1,k2⟩:=Zoh a2 h15
   have k3:IntKind.wrap .i64 (b2 % 8)=b2 % 8:=K5 (by omega) (by omega)
   rw [if_neg (by simp only [CQ];omega),JG (z:=b0) _ (by decide) rfl,JG (z:=b1) _ (by decide) rfl,JG (z:=b2) _ (by decide) rfl,JG (z:=b3) _ (by decide) rfl,JG (z:=b4) _ (by decide) rfl,JG (z:=b2) _ (by decide) rfl,
    k1,k2,k3,K5 a0 c0,K5 a1 c1,K5 a3 c3,K5 a4 c4,hf]
   have v0:iop .mul .i64 8 0=((0:Nat):Int):=by decide
   have v1:iop .mul .i64 8 1=((8:Nat):Int):=by decide
   have v2:iop .mul .i64 8 2=((16:Nat):Int):=by decide
   have v3:iop .mul .i64 8 3=((24:Nat):Int):=by decide
   have v4:iop .mul .i64 8 4=((32:Nat):Int):=by decide
   have p0:(2:Int)^0=1:=by decide
   have p1:(2:Int)^8=256:=by decide
   have p2:(2:Int)^16=65536:=by decide
   have p3:(2:Int)^24=16777216:=by decide
   have p4:(2:Int)^32=4294967296:=by decide
   have o0:iop .or .i64 0 (b5*2^0)=b5:=by rw [Zbb (by decide) (by decide) (by decide) a5 c5];omega
   have o1:iop .or .i64 b5 (b6*2^8)=b5+b6*256:=by rw [Zbb (by decide) a5 (by omega) a6 c6,p1]
   have o2:iop .or .i64 (b5+b6*256) (b7*2^16)=b5+b6*256+b7*65536:=by rw [Zbb (by decide) (by omega) (by omega) a7 c7,p2]
   have o3:iop .or .i64 (b5+b6*256+b7*65536) (b8*2^24)=b5+b6*256+b7*65536+b8*16777216:=by rw [Zbb (by decide) (by omega) (by omega) a8 c8,p3]
   have o4:iop .or .i64 (b5+b6*256+b7*65536+b8*16777216) (b9*2^32)=b5+b6*256+b7*65536+b8*16777216+b9*4294967296:=by rw [Zbb (by decide) (by omega) (by omega) a9 c9,p4]
   rw [Vk,if_pos (by decide),show iop .add .i64 5 0=5 by decide,JG (z:=b5) _ (by decide) rfl,Zj (by decide),v0,K5 a5 c5,ZmY 0 a5 c5 (by decide),o0,show iop .add .i64 0 1=1 by decide,
    Vk,if_pos (by decide),show iop .add .i64 5 1=6 by decide,JG (z:=b6) _ (by decide) rfl,Zj (by decide),v1,K5 a6 c6,ZmY 8 a6 c6 (by decide),o1,show iop .add .i64 1 1=2 by decide,
    Vk,if_pos (by decide),show iop .add .i64 5 2=7 by decide,JG (z:=b7) _ (by decide) rfl,Zj (by decide),v2,K5 a7 c7,ZmY 16 a7 c7 (by decide),o2,show iop .add .i64 2 1=3 by decide,
    Vk,if_pos (by decide),show iop .add .i64 5 3=8 by decide,JG (z:=b8) _ (by decide) rfl,Zj (by decide),v3,K5 a8 c8,ZmY 24 a8 c8 (by decide),o3,show iop .add .i64 3 1=4 by decide,
    Vk,if_pos (by decide),show iop .add .i64 5 4=9 by decide,JG (z:=b9) _ (by decide) rfl,Zj (by decide),v4,K5 a9 c9,ZmY 32 a9 c9 (by decide),o4,show iop .add .i64 4 1=5 by decide,
    Vk,if_neg (by decide),ZA3]
   simp only [Option.bind_some]
   have hd:Zbr [b0,b1,b2,b3,b4,b5,b6,b7,b8,b9]=Yu (Yz [b0,b1,b2,b3,b4,b5,b6,b7,b8,b9]):=by simp [Zbr,h15]
   simp only [Zh5,hd,Yz]
   cases Yu ⟨b0,b5+b6*256+b7*65536+b8*16777216+b9*4294967296,b1,b2 % 8,b3,b4,decide (8≤b2)⟩ <;> simp
  ·rw [if_pos (by simp only [CQ];omega)]
   have:Zbr [b0,b1,b2,b3,b4,b5,b6,b7,b8,b9]=false:=by simp [Zbr,h15]
   simp [Zh5,this]
 ·rw [if_pos (by simp only [CQ];omega)]
  have:Zbr L=false:=by simp [Zbr,h10]
  simp [Zh5,this]
theorem ZuE {c:Cap} (h:Yu c=true):Yz (Ziu c)=c∧Zbr (Ziu c)=true:=by
 obtain ⟨h1,h2,h3,h4,h5,h6,h7,h8,h9,h10,h11,h12⟩:=Zgh h
 have hc:Yz (Ziu c)=c:=by
  obtain ⟨k,b,s,r,w,l,d⟩:=c
  simp only [Ziu,h,if_true,J7,Yz] at *
  cases d
  ·simp only [Bool.false_eq_true,if_false]
   congr 1
   ·omega
   ·omega
   ·simp;omega
  ·simp only [if_true]
   congr 1
   ·omega
   ·omega
   ·simp;omega
 refine ⟨hc,?_⟩
 simp only [Zbr,hc,h,Bool.and_true,Bool.and_eq_true,decide_eq_true_eq]
 simp only [Ziu,h,if_true,J7]
 refine ⟨rfl,?_⟩
 simp only [List.getD_cons_succ,List.getD_cons_zero]
 split<;>omega
theorem ZsG {L:List Int} (hb:Zv L) (h:Zbr L=true):Ziu (Yz L)=L:=by
 simp only [Zbr,Bool.and_eq_true,decide_eq_true_eq] at h
 obtain ⟨⟨h10,h15⟩,hc⟩:=h
 obtain ⟨b0,b1,b2,b3,b4,b5,b6,b7,b8,b9,rfl⟩:∃ b0 b1 b2 b3 b4 b5 b6 b7 b8 b9,L = [b0,b1,b2,b3,b4,b5,b6,b7,b8,b9]:=by
  match L,h10 with
  | [b0, b1, b2, b3, b4, b5, b6, b7, b8, b9], _ => exact ⟨b0, b1, b2, b3, b4, b5, b6, b7, b8, b9, rfl⟩
 obtain ⟨a2,c2⟩:=hb b2 (by simp)
 obtain ⟨a5,c5⟩:=hb b5 (by simp)
 obtain ⟨a6,c6⟩:=hb b6 (by simp)
 obtain ⟨a7,c7⟩:=hb b7 (by simp)
 obtain ⟨a8,c8⟩:=hb b8 (by simp)
 obtain ⟨a9,c9⟩:=hb b9 (by simp)
 simp only [List.getD_cons_succ,List.getD_cons_zero] at h15
 simp only [Ziu,hc,if_true,J7]
 simp only [Yz,decide_eq_true_eq,List.cons.injEq,true_and,and_true]
 refine ⟨?_,?_,?_,?_,?_,?_⟩
 ·split<;>omega
 all_goals omega
end Go.Proofs.YtjldbnbdcmfbmaaGreat
end

section
namespace Go.Proofs.YtjldbnbdcmfbmaaGreat
open Go Go.AM
set_option linter.unusedSimpArgs false
set_option linter.unusedVariables false
set_option maxRecDepth 100000
theorem Zpw (l:List Id) (x:Id):Zb l++(E0++[[AV.val (.int .i64 x.core),AV.val (.int .i64 x.op),AV.val (.int .i64 x.part)]])=Zb (l++[x]):=by
 simp [Zb,idc]
end Go.Proofs.YtjldbnbdcmfbmaaGreat
end

section
namespace Go.Proofs.YtjldbnbdcmfbmaaGreat
open Go Go.AM
set_option linter.unusedSimpArgs false
set_option linter.unusedVariables false
set_option maxRecDepth 100000
def rd:Nat→List Int→Option (Nat×Nat)
 | _, [] => none
 | n, c :: cs =>
  if n=9∧1 < c then none else if 0 < n∧c=0 then none else if c < 128 then some (c.toNat,1) else
  match rd (n+1) cs with
  | some (w, k) => some ((c - 128).toNat + 128 * w, k + 1)
  | none => none
theorem ZEK {c:Int} (h0:0≤c) (h1:c≤255):IntKind.wrap .u64 (iop .and .u8 c 127)=c % 128:=by
 have:∀ c:Fin 256,IntKind.wrap .u64 (iop .and .u8 ((c.val:Nat):Int) 127)=((c.val:Nat):Int) % 128:=by decide +kernel
 have h:=this ⟨c.toNat,by omega⟩
 have e:((c.toNat:Nat):Int)=c:=by omega
 dsimp only at h
 rw [e] at h
 exact h
theorem Zx0 {acc m n:Nat} (ha:acc < 2^(7*n)) (hn:7*n≤63) (hm:m*2^(7*n)+acc < 2^64):iop .or .u64 (acc:Int) (iop .shl .u64 (m:Int) ((7*n:Nat):Int))=((acc+2^(7*n)*m:Nat):Int):=by
 have h64:(2:Int)^64=18446744073709551616:=by decide
 have h64':(2:Nat)^64=18446744073709551616:=by decide
 have hmin:min (((7*n:Nat):Int)).toNat IntKind.u64.bits=7*n:=by
  have:IntKind.u64.bits=64:=rfl
  omega
 have hp:(m:Int)*2^(7*n)=((m*2^(7*n):Nat):Int):=by
  rw [Int.natCast_mul,Int.natCast_pow]
  rfl
 have hs:iop .shl .u64 (m:Int) ((7*n:Nat):Int)=((m*2^(7*n):Nat):Int):=by
  show IntKind.wrap .u64 ((m:Int)*2^(min (((7*n:Nat):Int)).toNat IntKind.u64.bits))=_
  rw [hmin,hp,JL (by omega) (by omega)]
 rw [hs]
 have ho:(BitVec.ofInt 64 (acc:Int)||| BitVec.ofInt 64 ((m*2^(7*n):Nat):Int)).toNat=acc+2^(7*n)*m:=by
  have e1:(((acc:Int)) % ((2^64:Nat):Int)).toNat=acc:=by rw [h64'];omega
  have e2:((((m*2^(7*n):Nat):Int)) % ((2^64:Nat):Int)).toNat=m*2^(7*n):=by rw [h64'];omega
  rw [BitVec.toNat_or,BitVec.toNat_ofInt,BitVec.toNat_ofInt,e1,e2,Nat.or_comm,Nat.mul_comm m,← Nat.two_pow_add_eq_or_of_lt ha,Nat.add_comm]
 show IntKind.wrap .u64 (((BitVec.ofInt 64 (acc:Int)||| BitVec.ofInt 64 ((m*2^(7*n):Nat):Int)).toNat:Nat):Int)=_
 rw [ho,JL (by omega) (by rw [Nat.mul_comm] at hm;omega)]
theorem ZEj {bs:List Int} (hb:Zv bs) (hl:bs.length≤1000000) (off:Nat):∀ (cs:List Int) (n fuel acc:Nat),bs.drop (off+n)=cs→off+n≤bs.length→n≤9→cs.length < fuel→acc < 2^(7*n)→
  match rd n cs with
  | some (w, k) => Zbc fuel (Zd bs) off acc n = some (((acc + 2 ^ (7 * n) * w : Nat) : Int), ((off + n + k : Nat) : Int), 0)
  | none => ∃ e, e ≠ 0 ∧ Zbc fuel (Zd bs) off acc n = some (0, 0, e) := by
 have h64':(2:Nat)^64=18446744073709551616:=by decide
 intro cs
 induction cs with
 | nil =>
  intro n fuel acc hd ho hn hf ha
  obtain ⟨f,rfl⟩:∃ f,fuel=f+1:=⟨fuel-1,by omega⟩
  have hlen:off+n=bs.length:=by
   have:=List.drop_eq_nil_iff.1 hd
   omega
  have a0:iop .add .i64 (off:Int) (n:Int)=((off+n:Nat):Int):=by rw [JH (by omega) (by omega)];omega
  exact ⟨52,by decide,by rw [Zhi,a0,ZV,if_pos (by simp only [CQ];omega)]⟩
 | cons c cs ih =>
  intro n fuel acc hd ho hn hf ha
  obtain ⟨f,rfl⟩:∃ f,fuel=f+1:=⟨fuel-1,by omega⟩
  have hlt:off+n < bs.length:=by
   rcases Nat.lt_or_ge (off+n) bs.length with h | h
   ·exact h
   ·rw [List.drop_of_length_le h] at hd;cases hd
  have hc:bs[off+n]? = some c:=by
   have:=congrArg (fun l=>l[0]?) hd
   simpa using this
  have hat:bs[((off+n:Nat):Int).toNat]? = some c:=by rw [Int.toNat_natCast];exact hc
  have hcs:bs.drop (off+(n+1))=cs:=by
   have:=congrArg (List.drop 1) hd
   rw [List.drop_drop] at this
   simpa [Nat.add_assoc] using this
  obtain ⟨c0,c1⟩:=hb c (List.mem_of_getElem? hc)
  have a0:iop .add .i64 (off:Int) (n:Int)=((off+n:Nat):Int):=by rw [JH (by omega) (by omega)];omega
  have a1:iop .add .i64 (n:Int) 1=((n+1:Nat):Int):=by rw [JH (by omega) (by omega)];omega
  have a2:iop .add .i64 (off:Int) ((n+1:Nat):Int)=((off+n+1:Nat):Int):=by rw [JH (by omega) (by omega)];omega
  have a3:iop .mul .i64 7 (n:Int)=((7*n:Nat):Int):=by rw [Zrp (by omega) (by omega)];omega
  have e128:c % 128=((c.toNat % 128:Nat):Int):=by omega
  rw [Zhi,a0,ZV,if_neg (by simp only [CQ];omega),JG _ (by omega) hat,ZEK c0 c1,a1,a2,a3,e128]
  have tail:(¬ (n=9∧1 < c))→(¬ (0 < n∧c=0))→∀ (T:Option (Int×Int×Int)),T=(Zz ((0:Int)≤((7*n:Nat):Int))<|
    if (cop .lss c 128)=true then some ((iop .or .u64 (acc:Int) (iop .shl .u64 ((c.toNat % 128:Nat):Int) ((7*n:Nat):Int))),((off+n+1:Nat):Int),0)
    else Zbc f (Zd bs) off (iop .or .u64 (acc:Int) (iop .shl .u64 ((c.toNat % 128:Nat):Int) ((7*n:Nat):Int))) ((n+1:Nat):Int))→
    match rd n (c::cs) with
    | some (w, k) => T = some (((acc + 2 ^ (7 * n) * w : Nat) : Int), ((off + n + k : Nat) : Int), 0)
    | none => ∃ e, e ≠ 0 ∧ T = some (0, 0, e) := by
   intro h1 h2 T hT
   have hbound:c.toNat % 128*2^(7*n)+acc < 2^64:=by
    by_cases h9:n=9
    ·subst h9
     have hm:c.toNat % 128*2^(7*9)≤1*2^(7*9):=Nat.mul_le_mul_right _ (by omega)
     have hp2:1*2^(7*9)+2^(7*9)=(2:Nat)^64:=by decide
     have hs:=Nat.add_lt_add_of_le_of_lt hm ha
     rw [hp2] at hs
     exact hs
    ·have hp:(2:Nat)^(7*n)≤2^56:=Nat.pow_le_pow_right (by decide) (by omega)
     have hm:c.toNat % 128*2^(7*n)≤127*2^56:=Nat.mul_le_mul (by omega) hp
     have h56:(2:Nat)^56=72057594037927936:=by decide
     omega
   rw [Zj (by omega),Zx0 ha (by omega) hbound] at hT
   by_cases hc128:c < 128
   ·have hrd:rd n (c::cs)=some (c.toNat,1):=by rw [rd,if_neg h1,if_neg h2,if_pos hc128]
    rw [hrd]
    dsimp only
    have hmod:c.toNat % 128=c.toNat:=by omega
    rw [if_pos (by simp only [CQ];exact hc128),hmod] at hT
    exact hT
   ·have hn9:n≠9:=fun h=>h1 ⟨h,by omega⟩
    have hmod:(c-128).toNat=c.toNat % 128:=by omega
    rw [if_neg (by simp only [CQ];exact hc128)] at hT
    have hpow:(2:Nat)^(7*(n+1))=2^(7*n)*128:=by
     rw [show 7*(n+1)=7*n+7 by omega,Nat.pow_add]
    have hacc:acc+2^(7*n)*(c.toNat % 128) < 2^(7*(n+1)):=by
     rw [hpow]
     have hh:2^(7*n)*(c.toNat % 128)≤2^(7*n)*127:=Nat.mul_le_mul_left _ (by omega)
     omega
    have:=ih (n+1) f (acc+2^(7*n)*(c.toNat % 128)) hcs (by omega) (by omega) (by simp at hf;omega) hacc
    have hrd:rd n (c::cs)=match rd (n+1) cs with | some (w,k)=>some ((c-128).toNat+128*w,k+1) | none=>none:=by rw [rd,if_neg h1,if_neg h2,if_neg hc128]
    rw [hrd]
    cases hr:rd (n+1) cs with
    | none =>
     rw [hr] at this
     obtain ⟨e,he,hg⟩:=this
     exact ⟨e,he,hT.trans hg⟩
    | some p =>
     obtain ⟨w,k⟩:=p
     rw [hr] at this
     dsimp only at this ⊢
     rw [hT,this,hmod,hpow]
     have e1:acc+2^(7*n)*(c.toNat % 128)+2^(7*n)*128*w=acc+2^(7*n)*(c.toNat % 128+128*w):=by
      rw [Nat.mul_add,Nat.mul_assoc,Nat.add_assoc]
     have e2:off+(n+1)+k=off+n+(k+1):=by omega
     rw [e1,e2]
  by_cases h9:n=9
  ·rw [if_pos (by simp only [CQ];omega)]
   by_cases hc1:1 < c
   ·have hrd:rd n (c::cs)=none:=by rw [rd,if_pos ⟨h9,hc1⟩]
    rw [hrd]
    exact ⟨6,by decide,by rw [if_pos (by simp only [CQ];exact hc1)]⟩
   ·rw [if_neg (by simp only [CQ];exact hc1),if_pos (by simp only [CQ];omega)]
    by_cases hz:c=0
    ·have hrd:rd n (c::cs)=none:=by rw [rd,if_neg fun h=>hc1 h.2,if_pos ⟨by omega,hz⟩]
     rw [hrd]
     exact ⟨54,by decide,by rw [if_pos (by simp only [CQ];exact hz)]⟩
    ·rw [if_neg (by simp only [CQ];exact hz)]
     exact tail (fun h=>hc1 h.2) (fun h=>hz h.2) _ rfl
  ·rw [if_neg (by simp only [CQ];omega)]
   by_cases hn0:0 < n
   ·rw [if_pos (by simp only [CQ];omega)]
    by_cases hz:c=0
    ·have hrd:rd n (c::cs)=none:=by rw [rd,if_neg fun h=>h9 h.1,if_pos ⟨hn0,hz⟩]
     rw [hrd]
     exact ⟨54,by decide,by rw [if_pos (by simp only [CQ];exact hz)]⟩
    ·rw [if_neg (by simp only [CQ];exact hz)]
     exact tail (fun h=>h9 h.1) (fun h=>hz h.2) _ rfl
   ·rw [if_neg (by simp only [CQ];omega)]
    exact tail (fun h=>h9 h.1) (fun h=>hn0 h.1) _ rfl
theorem ZAC {bs:List Int} (hb:Zv bs) (hl:bs.length≤1000000) (off:Nat) (ho:off≤bs.length) :
  match rd 0 (bs.drop off) with
  | some (w, k) => Zu5 (Zd bs) off = some ((w : Int), ((off + k : Nat) : Int), 0)
  | none => ∃ e, e ≠ 0 ∧ Zu5 (Zd bs) off = some (0, 0, e) := by
 have h:=ZEj hb hl off (bs.drop off) 0 ZB 0 rfl (by omega) (by omega) (YR (by rw [List.length_drop];omega)) (by decide)
 rw [Zsj,if_neg (by simp only [CQ];omega),ZV,if_neg (by simp only [CQ];omega)]
 cases hr:rd 0 (bs.drop off) with
 | none => rw [hr] at h; exact h
 | some p =>
  obtain ⟨w,k⟩:=p
  rw [hr] at h
  dsimp only at h ⊢
  rw [show 0+2^(7*0)*w=w by simp] at h
  exact h
theorem Zlw:∀ (l:List Int) (n w k:Nat),Zv l→n≤9→rd n l=some (w,k)→w < 2^(64-7*n)∧(0 < n→0 < w)∧k≤l.length∧0 < k
 | [], n, w, k, _, _, h => by simp [rd] at h
 | c :: cs, n, w, k, hb, hn, h => by
  obtain ⟨c0,c1⟩:=hb c (by simp)
  rw [rd] at h
  split at h
  ·cases h
  ·rename_i h1
   split at h
   ·cases h
   ·rename_i h2
    split at h
    ·rename_i h3
     simp only [Option.some.injEq,Prod.mk.injEq] at h
     obtain ⟨rfl,rfl⟩:=h
     refine ⟨?_,fun h=>by omega,by simp,by decide⟩
     by_cases h9:n=9
     ·subst h9
      show c.toNat < 2
      omega
     ·have:(2:Nat)^7≤2^(64-7*n):=Nat.pow_le_pow_right (by decide) (by omega)
      have h7:(2:Nat)^7=128:=by decide
      omega
    ·rename_i h3
     have hn9:n≠9:=fun he=>h1 ⟨he,by omega⟩
     cases hr:rd (n+1) cs with
     | none => rw [hr] at h; cases h
     | some p =>
      obtain ⟨w',k'⟩:=p
      rw [hr] at h
      simp only [Option.some.injEq,Prod.mk.injEq] at h
      obtain ⟨rfl,rfl⟩:=h
      obtain ⟨g1,g2,g3,g4⟩:=Zlw cs (n+1) w' k' (fun z hz=>hb z (by simp [hz])) (by omega) hr
      have hp:(2:Nat)^(64-7*n)=2^(64-7*(n+1))*128:=by
       rw [show 64-7*n=64-7*(n+1)+7 by omega,Nat.pow_add]
      rw [hp]
      have:=g2 (by omega)
      exact ⟨by omega,fun _=>by omega,by simp;omega,by omega⟩
theorem Zvk:∀ (l:List Int) (n w k:Nat),Zv l→n≤9→rd n l=some (w,k)→l.take k=uv w
 | [], n, w, k, _, _, h => by simp [rd] at h
 | c :: cs, n, w, k, hb, hn, h => by
  obtain ⟨c0,c1⟩:=hb c (by simp)
  have hlt:=(Zlw (c::cs) n w k hb hn h).1
  have hw:w < 2^64:=Nat.lt_of_lt_of_le hlt (Nat.pow_le_pow_right (by decide) (by omega))
  rw [rd] at h
  split at h
  ·cases h
  ·rename_i h1
   split at h
   ·cases h
   ·split at h
    ·rename_i h3
     simp only [Option.some.injEq,Prod.mk.injEq] at h
     obtain ⟨rfl,rfl⟩:=h
     rw [Zbm hw,if_pos (by omega)]
     simp
     omega
    ·rename_i h3
     have hn9:n≠9:=fun he=>h1 ⟨he,by omega⟩
     cases hr:rd (n+1) cs with
     | none => rw [hr] at h; cases h
     | some p =>
      obtain ⟨w',k'⟩:=p
      rw [hr] at h
      simp only [Option.some.injEq,Prod.mk.injEq] at h
      obtain ⟨rfl,rfl⟩:=h
      have hbs:Zv cs:=fun z hz=>hb z (by simp [hz])
      obtain ⟨g1,g2,g3,g4⟩:=Zlw cs (n+1) w' k' hbs (by omega) hr
      have:=g2 (by omega)
      have ih:=Zvk cs (n+1) w' k' hbs (by omega) hr
      have ed:((c-128).toNat+128*w') / 128=w':=by omega
      have em:((((c-128).toNat+128*w') % 128+128:Nat):Int)=c:=by omega
      rw [List.take_succ_cons,ih,Zbm hw,if_neg (by omega),ed,em]
theorem ZxY:∀ (m v n:Nat) (r:List Int),v < 128^m→v < 2^64→n+m≤9→(0 < n→0 < v)→rd n (uv v++r)=some (v,uvN v)
 | 0, v, n, r, h, hv, hn, h0 => by
  have hz:v=0:=by simpa using h
  subst hz
  have:¬ 0 < n:=fun hh=>absurd (h0 hh) (by decide)
  have:n=0:=by omega
  subst this
  rfl
 | m + 1, v, n, r, h, hv, hn, h0 => by
  rw [Zbm hv,Zfa hv]
  by_cases hs:v < 128
  ·rw [if_pos hs,if_pos hs,List.cons_append,rd,if_neg (by omega),if_neg (by omega),if_pos (by omega)]
   simp
  ·have hd:v / 128 < 128^m:=by
    rw [Nat.pow_succ] at h
    exact Nat.div_lt_of_lt_mul (by omega)
   rw [if_neg hs,if_neg hs,List.cons_append,rd,if_neg (by omega),if_neg (by omega),if_neg (by omega),ZxY m (v / 128) (n+1) r hd (by omega) (by omega) (fun _=>by omega)]
   simp only [Option.some.injEq,Prod.mk.injEq,and_true]
   omega
end Go.Proofs.YtjldbnbdcmfbmaaGreat
end

section
namespace Go.Proofs.YtjldbnbdcmfbmaaGreat
open Go Go.AM
set_option linter.unusedSimpArgs false
set_option linter.unusedVariables false
set_option maxRecDepth 100000
def rdo (lim:Nat) (bs:List Int) (off:Nat):Option (Nat×Nat):=
 match rd 0 (bs.drop off) with
 | some (w, k) => if w ≤ lim then some (w, off + k) else none
 | none => none
theorem ZcI {lim:Nat} {bs:List Int} (hb:Zv bs) {off w o:Nat} (ho:off≤bs.length) (h:rdo lim bs off=some (w,o)):w≤lim∧off < o∧o≤bs.length∧(bs.drop off).take (o-off)=uv w:=by
 unfold rdo at h
 split at h
 ·rename_i w' k hr
  split at h
  ·rename_i hle
   simp only [Option.some.injEq,Prod.mk.injEq] at h
   obtain ⟨rfl,rfl⟩:=h
   have hbd:Zv (bs.drop off):=fun z hz=>hb z (List.mem_of_mem_drop hz)
   obtain ⟨g1,g2,g3,g4⟩:=Zlw _ 0 _ _ hbd (by omega) hr
   rw [List.length_drop] at g3
   refine ⟨hle,by omega,by omega,?_⟩
   rw [show off+k-off=k by omega]
   exact Zvk _ 0 _ _ hbd (by omega) hr
  ·cases h
 ·cases h
theorem ZiL (x0:List (List AV)) (x1 x3:Int):Zux x0 x1 true x3=some (0,x0,x1,true):=by
 rw [Zoi,if_pos rfl]
theorem ZyD {bs:List Int} (hb:Zv bs) (hl:bs.length≤1000000) (off:Nat) (ho:off≤bs.length) (lim:Nat) (hlim:lim < 2^62) :
  Zux (Zd bs) off false lim=some (match rdo lim bs off with | some (w,o)=>((w:Int),Zd bs,(o:Int),false) | none=>(0,Zd bs,(off:Int),true)):=by
 have h62:(2:Nat)^62=4611686018427387904:=by decide
 have h64:(2:Int)^64=18446744073709551616:=by decide
 have h63:(2:Int)^63=9223372036854775808:=by decide
 have hu:IntKind.wrap .u64 (lim:Int)=(lim:Int):=JL (by omega) (by omega)
 have h:=ZAC hb hl off ho
 rw [Zoi,if_neg (by simp),hu]
 unfold rdo
 cases hr:rd 0 (bs.drop off) with
 | none =>
  rw [hr] at h
  obtain ⟨e,he,hg⟩:=h
  rw [hg,Option.bind_some,if_pos (by simp only [CQ];exact he)]
 | some p =>
  obtain ⟨w,k⟩:=p
  rw [hr] at h
  dsimp only at h ⊢
  rw [h,Option.bind_some,if_neg (by simp [cop])]
  dsimp only
  by_cases hw:w≤lim
  ·rw [if_neg (by simp only [CQ];omega),if_pos hw,KO (by omega) (by omega)]
  ·rw [if_pos (by simp only [CQ];omega),if_neg hw]
def rid (bs:List Int) (off:Nat):Option (Id×Nat):=
 match rdo 32 bs off with
 | none => none
 | some (a, o) =>
  match rdo 1073741824 bs o with
  | none => none
  | some (b, o) =>
   match rdo 8 bs o with
   | none => none
   | some (c, o) => some (⟨a, b, c⟩, o)
theorem ZBq (x0:List (List AV)) (x1:Int):Zu7 x0 x1 true=some (0,0,0,x0,x1,true):=by
 rw [Zn1,ZiL,Option.bind_some,ZiL,Option.bind_some,ZiL,Option.bind_some]
theorem ZDd {bs:List Int} (hb:Zv bs) (hl:bs.length≤1000000) (off:Nat) (ho:off≤bs.length) :
  match rid bs off with
  | some (i, o) => Zu7 (Zd bs) off false = some (i.core, i.op, i.part, Zd bs, (o : Int), false)
  | none => ∃ a b c o, Zu7 (Zd bs) off false = some (a, b, c, Zd bs, o, true) := by
 have q1:=ZyD hb hl off ho 32 (by decide)
 rw [Zn1]
 have e1:(((32:Nat):Nat):Int)=32:=rfl
 have e2:(((1073741824:Nat):Nat):Int)=1073741824:=rfl
 have e3:(((8:Nat):Nat):Int)=8:=rfl
 rw [e1] at q1
 rw [q1,Option.bind_some]
 unfold rid
 cases h1:rdo 32 bs off with
 | none =>
  dsimp only
  rw [ZiL,Option.bind_some,ZiL,Option.bind_some]
  exact ⟨_,_,_,_,rfl⟩
 | some p =>
  obtain ⟨a,o1⟩:=p
  obtain ⟨b1,b2,b3,b4⟩:=ZcI hb ho h1
  dsimp only
  have q2:=ZyD hb hl o1 b3 1073741824 (by decide)
  rw [e2] at q2
  rw [q2,Option.bind_some]
  cases h2:rdo 1073741824 bs o1 with
  | none =>
   dsimp only
   rw [ZiL,Option.bind_some]
   exact ⟨_,_,_,_,rfl⟩
  | some p =>
   obtain ⟨b,o2⟩:=p
   obtain ⟨c1,c2,c3,c4⟩:=ZcI hb b3 h2
   dsimp only
   have q3:=ZyD hb hl o2 c3 8 (by decide)
   rw [e3] at q3
   rw [q3,Option.bind_some]
   cases h3:rdo 8 bs o2 with
   | none => exact ⟨_, _, _, _, rfl⟩
   | some p => rfl
theorem Wb {l:List Int} {a b c:Nat} (h1:a≤b) (h2:b≤c):(l.drop a).take (c-a)=(l.drop a).take (b-a)++(l.drop b).take (c-b):=by
 have e:c-a=(b-a)+(c-b):=by omega
 rw [e,List.take_add,List.drop_drop,show a+(b-a)=b by omega]
theorem Zk4 {bs:List Int} (hb:Zv bs) {off o:Nat} {i:Id} (ho:off≤bs.length) (h:rid bs off=some (i,o)):off < o∧o≤bs.length∧(bs.drop off).take (o-off)=idB i:=by
 unfold rid at h
 split at h
 ·cases h
 ·rename_i a o1 h1
  obtain ⟨a1,a2,a3,a4⟩:=ZcI hb ho h1
  split at h
  ·cases h
  ·rename_i b o2 h2
   obtain ⟨b1,b2,b3,b4⟩:=ZcI hb a3 h2
   split at h
   ·cases h
   ·rename_i c o3 h3
    obtain ⟨c1,c2,c3,c4⟩:=ZcI hb b3 h3
    simp only [Option.some.injEq,Prod.mk.injEq] at h
    obtain ⟨rfl,rfl⟩:=h
    refine ⟨by omega,c3,?_⟩
    rw [Wb (b:=o2) (by omega) (by omega),Wb (b:=o1) (by omega) (by omega),a4,b4,c4]
    rfl
end Go.Proofs.YtjldbnbdcmfbmaaGreat
end

section
namespace Go.Proofs.YtjldbnbdcmfbmaaGreat
open Go Go.AM
set_option linter.unusedSimpArgs false
set_option linter.unusedVariables false
set_option maxRecDepth 100000
def Zl6 (bs:List Int):Nat→Nat→Option (List Id×Nat)
 | 0, off => some ([], off)
 | c + 1, off =>
  match rid bs off with
  | none => none
  | some (i, o) =>
   match Zl6 bs c o with
   | none => none
   | some (l, o) => some (i :: l, o)
abbrev ZAP:=Int×Int×Int×List (List AV)×Int×Int×Int×Int×Int×Int×Bool×Int
def Zbu (r:Option J4):ZAP:=
 match r with
 | some n => (n.id.core, n.id.op, n.id.part, Zb n.path, n.cap.kind, n.cap.base, n.cap.bits, n.cap.rights, n.cap.width, n.cap.level, n.cap.device, 0)
 | none => (0, 0, 0, [], 0, 0, 0, 0, 0, 0, false, 14)
def ZtD (bs:List Int) (i:Id) (p:List Id) (o:Nat):Option J4:=
 if Zbr (bs.drop o)=true∧ZR ⟨i,p,Yz (bs.drop o)⟩=true then some ⟨i,p,Yz (bs.drop o)⟩ else none
def ZoW (bs:List Int):Option J4:=
 match rid bs 0 with
 | none => none
 | some (i, o) =>
  match rdo 8 bs o with
  | none => none
  | some (c, o) =>
   match Zl6 bs c o with
   | none => none
   | some (p, o) => ZtD bs i p o
theorem ZtK (y:List (List AV)) (i:Id) (x0:List (List AV)) (c:Nat) (hc:c≤8):∀ (j k fuel:Nat) (acc:List (List AV)) (off:Int),c=k+j→j < fuel→acc.length≤k→
  Ze0 fuel x0 0 0 0 [] 0 0 0 0 0 0 false i.core i.op i.part acc 0 0 0 0 0 0 false (c:Int) (k:Int) y off true=some (Zbu none):=by
 intro j
 induction j with
 | zero =>
  intro k fuel acc off h hf ha
  obtain ⟨f,rfl⟩:∃ f,fuel=f+1:=⟨fuel-1,by omega⟩
  rw [Zaf,if_neg (by simp only [CQ];omega),if_pos rfl]
  rfl
 | succ j ih =>
  intro k fuel acc off h hf ha
  obtain ⟨f,rfl⟩:∃ f,fuel=f+1:=⟨fuel-1,by omega⟩
  have a4:iop .add .i64 (k:Int) 1=((k+1:Nat):Int):=by rw [JH (by omega) (by omega)];omega
  rw [Zaf,if_pos (by simp only [CQ];omega),ZBq,Option.bind_some,Zj (ZcH (by simp;omega)),a4]
  exact ih (k+1) f _ _ (by omega) (by omega) (by simp;omega)
theorem ZAi {bs:List Int} (hb:Zv bs) (hl:bs.length≤1000000) (i:Id) (p:List Id) (hp:p.length≤8) (o:Nat) (ho:o≤bs.length) (f:Nat) (c:Nat) (y:List (List AV)) :
  Ze0 (f+1) (Zd bs) 0 0 0 [] 0 0 0 0 0 0 false i.core i.op i.part (Zb p) 0 0 0 0 0 0 false (c:Int) (c:Int) y (o:Int) false=some (Zbu (ZtD bs i p o)):=by
 have hbd:Zv (bs.drop o):=fun z hz=>hb z (List.mem_of_mem_drop hz)
 have hdrop:List.drop (Int.toNat (o:Int)) (Zd bs)=Zd (bs.drop o):=by simp [Zd,List.map_drop]
 rw [Zaf,if_neg (by simp [cop]),if_neg (by simp),Zj (by omega),Zj (by rw [ZV];omega),hdrop,ZD3 hbd (by rw [List.length_drop];omega),Option.bind_some]
 unfold Zh5 ZtD
 cases hd:Zbr (bs.drop o) with
 | false =>
  rw [if_neg Bool.false_ne_true]
  dsimp only
  rw [if_pos (by decide),if_neg (by simp)]
  rfl
 | true =>
  rw [if_pos rfl]
  dsimp only
  have q:=s95 ⟨i,p,Yz (bs.drop o)⟩ (by show p.length < _;omega)
  dsimp only at q
  rw [if_neg (by simp [cop]),q,Option.bind_some]
  cases hn:ZR ⟨i,p,Yz (bs.drop o)⟩ with
  | false =>
   rw [if_pos (by simp),if_neg (by simp)]
   rfl
  | true =>
   rw [if_neg (by simp),if_pos ⟨rfl,rfl⟩]
   rfl
theorem ZE1 {bs:List Int} (hb:Zv bs) (hl:bs.length≤1000000) (i:Id) (c:Nat) (hc:c≤8):∀ (j k fuel:Nat) (acc:List Id) (off:Nat),c=k+j→j < fuel→acc.length=k→off≤bs.length→
  Ze0 fuel (Zd bs) 0 0 0 [] 0 0 0 0 0 0 false i.core i.op i.part (Zb acc) 0 0 0 0 0 0 false (c:Int) (k:Int) (Zd bs) (off:Int) false =
   some (Zbu (match Zl6 bs j off with | none=>none | some (l,o)=>ZtD bs i (acc++l) o)):=by
 intro j
 induction j with
 | zero =>
  intro k fuel acc off h hf ha ho
  obtain ⟨f,rfl⟩:∃ f,fuel=f+1:=⟨fuel-1,by omega⟩
  have hck:c=k:=by omega
  subst hck
  rw [ZAi hb hl i acc (by omega) off ho f c]
  simp only [Zl6,List.append_nil]
 | succ j ih =>
  intro k fuel acc off h hf ha ho
  obtain ⟨f,rfl⟩:∃ f,fuel=f+1:=⟨fuel-1,by omega⟩
  have a4:iop .add .i64 (k:Int) 1=((k+1:Nat):Int):=by rw [JH (by omega) (by omega)];omega
  have h88:=ZDd hb hl off ho
  rw [Zaf,if_pos (by simp only [CQ];omega)]
  cases hr:rid bs off with
  | none =>
   rw [hr] at h88
   obtain ⟨a,b,d,o,hg⟩:=h88
   rw [hg,Option.bind_some,Zj (ZcH (by rw [ZU];simp;omega)),a4]
   have:=ZtK (Zd bs) i (Zd bs) c hc j (k+1) f (Zb acc++(E0++[[AV.val (.int .i64 a),AV.val (.int .i64 b),AV.val (.int .i64 d)]])) o (by omega) (by omega) (by rw [List.length_append,ZU];simp;omega)
   simp only [Zl6,hr]
   exact this
  | some p =>
   obtain ⟨x,o⟩:=p
   rw [hr] at h88
   dsimp only at h88
   obtain ⟨r1,r2,r3⟩:=Zk4 hb ho hr
   have hsn:=Zpw acc x
   rw [h88,Option.bind_some,Zj (ZcH (by rw [ZU];simp;omega)),a4]
   dsimp only
   rw [hsn,ih (k+1) f _ o (by omega) (by omega) (by simp;omega) r2]
   simp only [Zl6,hr]
   cases Zl6 bs j o with
   | none => rfl
   | some q => simp [List.append_assoc]
theorem ZDD {bs:List Int} (hb:Zv bs) (hl:bs.length≤1000000):ZBA (Zd bs)=some (Zbu (ZoW bs)):=by
 have h88:=ZDd hb hl 0 (Nat.zero_le _)
 rw [ZsD]
 unfold ZoW
 have e0:((0:Nat):Int)=0:=rfl
 rw [e0] at h88
 cases hr:rid bs 0 with
 | none =>
  rw [hr] at h88
  obtain ⟨a,b,d,o,hg⟩:=h88
  rw [hg,Option.bind_some]
  dsimp only
  rw [ZiL,Option.bind_some]
  dsimp only
  exact ZtK (Zd bs) ⟨a,b,d⟩ (Zd bs) 0 (by omega) 0 0 ZB [] o rfl (YR (by decide)) (Nat.le_refl _)
 | some p =>
  obtain ⟨i,o⟩:=p
  rw [hr] at h88
  dsimp only at h88 ⊢
  obtain ⟨r1,r2,r3⟩:=Zk4 hb (Nat.zero_le _) hr
  have q:=ZyD hb hl o r2 8 (by decide)
  have e8:((8:Nat):Int)=8:=rfl
  rw [e8] at q
  rw [h88,Option.bind_some]
  dsimp only
  rw [q,Option.bind_some]
  cases hc:rdo 8 bs o with
  | none => exact ZtK (Zd bs) i (Zd bs) 0 (by omega) 0 0 ZB [] o rfl (YR (by decide)) (Nat.le_refl _)
  | some p =>
   obtain ⟨c,o2⟩:=p
   obtain ⟨c1,c2,c3,c4⟩:=ZcI hb r2 hc
   dsimp only
   have:=ZE1 hb hl i c c1 c 0 ZB [] o2 (by omega) (YR (by omega)) rfl c3
   exact this
end Go.Proofs.YtjldbnbdcmfbmaaGreat
end

section
namespace Go.Proofs.YtjldbnbdcmfbmaaGreat
open Go Go.AM
set_option linter.unusedSimpArgs false
set_option linter.unusedVariables false
set_option maxRecDepth 100000
theorem ZjO {lim v:Nat} (a r:List Int) (hv:v≤lim) (h2:v < 2^62):rdo lim (a++(uv v++r)) a.length=some (v,a.length+uvN v):=by
 have h62:(2:Nat)^62=4611686018427387904:=by decide
 have h64:(2:Nat)^64=18446744073709551616:=by decide
 have h9:(128:Nat)^9=9223372036854775808:=by decide
 unfold rdo
 rw [List.drop_left,ZxY 9 v 0 r (by omega) (by omega) (by omega) (fun h=>absurd h (by decide))]
 simp only [hv,if_true]
theorem ZqY {i:Id} (hi:VA i=true) (a r:List Int):rid (a++(idB i++r)) a.length=some (i,a.length+(idB i).length):=by
 obtain ⟨h1,h2,h3,h4,h5,h6⟩:=ZjA hi
 have h62:(2:Nat)^62=4611686018427387904:=by decide
 have q1:=ZjO (lim:=32) (v:=i.core.toNat) a (uv i.op.toNat++(uv i.part.toNat++r)) (by omega) (by omega)
 have q2:=ZjO (lim:=1073741824) (v:=i.op.toNat) (a++uv i.core.toNat) (uv i.part.toNat++r) (by omega) (by omega)
 have q3:=ZjO (lim:=8) (v:=i.part.toNat) (a++uv i.core.toNat++uv i.op.toNat) r (by omega) (by omega)
 simp only [List.append_assoc,List.length_append,Kj] at q1 q2 q3
 unfold rid
 simp only [idB,List.append_assoc,List.length_append,Kj,q1,q2,Nat.add_assoc] at q3 ⊢
 rw [q3]
 simp only [Option.some.injEq,Prod.mk.injEq,and_true]
 have e1:((i.core.toNat:Nat):Int)=i.core:=by omega
 have e2:((i.op.toNat:Nat):Int)=i.op:=by omega
 have e3:((i.part.toNat:Nat):Int)=i.part:=by omega
 rw [e1,e2,e3]
theorem ZkQ:∀ (l:List Id) (a r:List Int),(∀ x∈l,VA x=true)→Zl6 (a++((l.map idB).flatten++r)) l.length a.length=some (l,a.length+((l.map idB).flatten).length)
 | [], a, r, _ => by simp [Zl6]
 | x :: l, a, r, h => by
  have q:=ZqY (h x (by simp)) a ((l.map idB).flatten++r)
  have q2:=ZkQ l (a++idB x) r fun y hy=>h y (by simp [hy])
  simp only [List.append_assoc,List.length_append] at q q2
  simp only [List.length_cons,List.map_cons,List.flatten_cons,List.append_assoc,Zl6,q,q2,List.length_append,Nat.add_assoc]
def Zu1 (n:J4):List Int:=idB n.id++uv n.path.length++(n.path.map idB).flatten
theorem Zsg {n:J4} (hn:ZR n=true) (r:List Int):ZoW (Zu1 n++r)=ZtD (Zu1 n++r) n.id n.path (Zu1 n).length:=by
 obtain ⟨h1,h2,h3,h4⟩:=WM hn
 have h62:(2:Nat)^62=4611686018427387904:=by decide
 have q1:=ZqY h1 [] (uv n.path.length++((n.path.map idB).flatten++r))
 have q2:=ZjO (lim:=8) (v:=n.path.length) (idB n.id) ((n.path.map idB).flatten++r) h3 (by omega)
 have q3:=ZkQ n.path (idB n.id++uv n.path.length) r fun x hx=>ZmX hn x hx
 simp only [List.nil_append,List.length_nil,Nat.zero_add] at q1
 simp only [List.append_assoc,List.length_append,Kj] at q3
 unfold ZoW Zu1
 simp only [List.append_assoc,q1,q2,q3,List.length_append,Kj,Nat.add_assoc]
theorem ZDe {c:Cap} (h:Yu c=true):Ziu c=J7 c:=by unfold Ziu;rw [if_pos h]
theorem Zf8 {n:J4} (hn:ZR n=true):ZoW (Ko n)=some n:=by
 obtain ⟨h1,h2,h3,h4⟩:=WM hn
 obtain ⟨d1,d2⟩:=ZuE h2
 rw [ZDe h2] at d1 d2
 have:=Zsg hn (J7 n.cap)
 have e:Ko n=Zu1 n++J7 n.cap:=by simp [Ko,Zu1]
 rw [e,this]
 unfold ZtD
 rw [List.drop_left,d1,if_pos ⟨d2,hn⟩]
theorem Znd {bs:List Int} (hb:Zv bs):∀ (c off o:Nat) (l:List Id),off≤bs.length→Zl6 bs c off=some (l,o)→l.length=c∧off≤o∧o≤bs.length∧(bs.drop off).take (o-off)=(l.map idB).flatten
 | 0, off, o, l, ho, h => by
  simp only [Zl6,Option.some.injEq,Prod.mk.injEq] at h
  obtain ⟨rfl,rfl⟩:=h
  exact ⟨rfl,Nat.le_refl _,ho,by simp⟩
 | c + 1, off, o, l, ho, h => by
  simp only [Zl6] at h
  split at h
  ·cases h
  ·rename_i i o1 h1
   obtain ⟨a1,a2,a3⟩:=Zk4 hb ho h1
   split at h
   ·cases h
   ·rename_i l' o2 h2
    simp only [Option.some.injEq,Prod.mk.injEq] at h
    obtain ⟨rfl,rfl⟩:=h
    obtain ⟨b1,b2,b3,b4⟩:=Znd hb c o1 o2 l' a2 h2
    refine ⟨by simp [b1],by omega,b3,?_⟩
    rw [Wb (b:=o1) (by omega) b2,a3,b4]
    rfl
theorem Zo1 {bs:List Int} (hb:Zv bs) {n:J4} (h:ZoW bs=some n):ZR n=true∧Ko n=bs:=by
 unfold ZoW at h
 split at h
 ·cases h
 ·rename_i i o1 h1
  obtain ⟨a1,a2,a3⟩:=Zk4 hb (Nat.zero_le _) h1
  split at h
  ·cases h
  ·rename_i c o2 h2
   obtain ⟨b1,b2,b3,b4⟩:=ZcI hb a2 h2
   split at h
   ·cases h
   ·rename_i p o3 h3
    obtain ⟨c1,c2,c3,c4⟩:=Znd hb c o2 o3 p b3 h3
    unfold ZtD at h
    split at h
    ·rename_i hh
     simp only [Option.some.injEq] at h
     subst h
     have hbd:Zv (bs.drop o3):=fun z hz=>hb z (List.mem_of_mem_drop hz)
     have hcap:=(WM hh.2).2.1
     have he:=ZsG hbd hh.1
     rw [ZDe hcap] at he
     refine ⟨hh.2,?_⟩
     unfold Ko
     dsimp only
     rw [he,c1,← a3,← b4,← c4]
     have e:(bs.drop 0).take (o3-0)=(bs.drop 0).take (o1-0)++(bs.drop o1).take (o2-o1)++(bs.drop o2).take (o3-o2):=by
      rw [Wb (b:=o2) (by omega) c2,Wb (b:=o1) (by omega) (by omega)]
     rw [← e,List.drop_zero,Nat.sub_zero,List.take_append_drop]
    ·cases h
end Go.Proofs.YtjldbnbdcmfbmaaGreat
end

section
namespace Go.Proofs.YtjldbnbdcmfbmaaGreat
open Go Go.AM
set_option linter.unusedSimpArgs false
set_option linter.unusedVariables false
set_option maxRecDepth 100000
end Go.Proofs.YtjldbnbdcmfbmaaGreat
end

section
namespace Go.Proofs.YtjldbnbdcmfbmaaGreat
open Go Go.AM
set_option linter.unusedSimpArgs false
set_option linter.unusedVariables false
set_option maxRecDepth 100000
theorem ZeX:∀ (a b:List Int),Zv a→Zv b→((Zd a).map fun e=>(ZdI e).getD 0)=((Zd b).map fun e=>(ZdI e).getD 0)→a=b
 | [], [], _, _, _ => rfl
 | [], _ :: _, _, _, h => by simp [Zd] at h
 | _ :: _, [], _, _, h => by simp [Zd] at h
 | x :: a, y :: b, ha, hb, h => by
  have e1:UInt8.ofNat x.toNat=UInt8.ofNat y.toNat∧((Zd a).map fun e=>(ZdI e).getD 0)=((Zd b).map fun e=>(ZdI e).getD 0):=by
   simpa [Zd,u8c,ZdI] using h
  obtain ⟨x0,x1⟩:=ha x (by simp)
  obtain ⟨y0,y1⟩:=hb y (by simp)
  have e2:=congrArg UInt8.toNat e1.1
  simp only [UInt8.toNat_ofNat'] at e2
  have e3:x=y:=by omega
  rw [e3,ZeX a b (fun z hz=>ha z (by simp [hz])) (fun z hz=>hb z (by simp [hz])) e1.2]
end Go.Proofs.YtjldbnbdcmfbmaaGreat
end

section
namespace Go.Proofs.YtjldbnbdcmfbmaaGreat
open Go Go.AM
set_option linter.unusedSimpArgs false
set_option linter.unusedVariables false
set_option maxRecDepth 100000
def PF {α:Type} (c:α→List Int) (G:α→Prop):Prop:=∀ a b r s,G a→G b→c a++r=c b++s→a=b∧r=s
theorem ZBK {n:Nat} (h:n≤8):(2:Nat)^(64-7*n)=128*2^(64-7*(n+1)):=by
 rw [show (128:Nat)=2^7 by decide,← Nat.pow_add]
 congr 1;omega
theorem Zq7:∀ (k v n:Nat) (r:List Int),n+k=9→v < 2^(64-7*n)→v < 2^64→(0 < n→0 < v)→rd n (uv v++r)=some (v,uvN v)
 | 0, v, n, r, hn, hv, hv64, h0 => by
  have hn9:n=9:=by omega
  subst hn9
  have hv2:v < 2:=hv
  have:=h0 (by omega)
  rw [Zbm hv64,Zfa hv64,if_pos (by omega),if_pos (by omega),List.cons_append,rd,if_neg (by omega),if_neg (by omega),if_pos (by omega)]
  simp
 | k + 1, v, n, r, hn, hv, hv64, h0 => by
  rw [Zbm hv64,Zfa hv64]
  by_cases hs:v < 128
  ·rw [if_pos hs,if_pos hs,List.cons_append,rd,if_neg (by omega),if_neg (by omega),if_pos (by omega)]
   simp
  ·have hd:v / 128 < 2^(64-7*(n+1)):=by
    rw [ZBK (by omega)] at hv
    exact Nat.div_lt_of_lt_mul hv
   rw [if_neg hs,if_neg hs,List.cons_append,rd,if_neg (by omega),if_neg (by omega),if_neg (by omega),Zq7 k (v / 128) (n+1) r (by omega) hd (by omega) (fun _=>by omega)]
   simp only [Option.some.injEq,Prod.mk.injEq,and_true]
   omega
theorem Zfw {v:Nat} (hv:v < 2^64) (r:List Int):rd 0 (uv v++r)=some (v,uvN v):=Zq7 9 v 0 r rfl hv hv (fun h=>absurd h (Nat.lt_irrefl _))
theorem ZoC:PF uv (fun v=>v < 2^64):=by
 intro a b r s ha hb h
 have h1:=Zfw ha r
 rw [h,Zfw hb s] at h1
 have:b=a:=by simp only [Option.some.injEq,Prod.mk.injEq] at h1;exact h1.1
 subst this
 exact ⟨rfl,List.append_cancel_left h⟩
theorem Yw:PF nB N63:=by
 intro a b r s ha hb h
 obtain ⟨h1,h2⟩:=ZoC _ _ _ _ (show a.toNat < 2^64 by have:=ha.2;omega) (show b.toNat < 2^64 by have:=hb.2;omega) h
 exact ⟨by have:=ha.1;have:=hb.1;omega,h2⟩
theorem Znu:BitVec.ofInt 64 18446744073709551615=BitVec.allOnes 64:=by decide
theorem ZiJ {z:Int} (h:Rng z):sgV z=if z < 0 then -2*z-1 else 2*z:=by
 obtain ⟨h0,h1⟩:=h
 have h63:(2:Int)^63=9223372036854775808:=by decide
 have h64:(2:Int)^64=18446744073709551616:=by decide
 have wr:∀ x:Int,IntKind.wrap .u64 x=x % 18446744073709551616:=fun x=>by
  simp only [IntKind.wrap]
  have:IntKind.u64.signed=false:=rfl
  simp [this,IntKind.bits]
 have hs:iop .shl .u64 (IntKind.wrap .u64 z) 1=(2*z) % 18446744073709551616:=by
  show IntKind.wrap .u64 (IntKind.wrap .u64 z*2^(min ((1:Int)).toNat IntKind.u64.bits))=_
  rw [show (min ((1:Int)).toNat IntKind.u64.bits)=1 from rfl,wr,wr]
  omega
 unfold sgV
 rw [hs]
 split
 ·rename_i hz
  have e:(2*z) % 18446744073709551616=2*z+18446744073709551616:=by omega
  rw [e,Zog,Znu,BitVec.allOnes_xor,BitVec.toNat_not,BitVec.toNat_ofInt]
  have e2:((2*z+18446744073709551616) % ((2^64:Nat):Int)).toNat=(2*z+18446744073709551616).toNat:=by
   rw [show ((2^64:Nat):Int)=18446744073709551616 by decide,Int.emod_eq_of_lt (by omega) (by omega)]
  rw [e2,show (2:Nat)^64=18446744073709551616 by decide]
  omega
 ·omega
theorem Zx1:PF sgB Rng:=by
 intro a b r s ha hb h
 have ra:=Zcu a;have rb:=Zcu b
 have h64:(2:Int)^64=((2^64:Nat):Int):=by decide
 obtain ⟨h1,h2⟩:=ZoC _ _ _ _ (show (sgV a).toNat < 2^64 by omega) (show (sgV b).toNat < 2^64 by omega) h
 have he:sgV a=sgV b:=by omega
 rw [ZiJ ha,ZiJ hb] at he
 refine ⟨?_,h2⟩
 split at he<;>split at he<;>omega
theorem ZiZ {α:Type} {c:α→List Int} {G:α→Prop} (hc:PF c G):∀ (xs ys:List α) (r s:List Int),xs.length=ys.length→(∀ x∈xs,G x)→(∀ y∈ys,G y)→(xs.map c).flatten++r=(ys.map c).flatten++s→xs=ys∧r=s
 | [], [], r, s, _, _, _, h => ⟨rfl, by simpa using h⟩
 | x :: xs, y :: ys, r, s, hl, hx, hy, h => by
  simp only [List.map_cons,List.flatten_cons,List.append_assoc] at h
  obtain ⟨h1,h⟩:=hc _ _ _ _ (hx x (by simp)) (hy y (by simp)) h
  obtain ⟨h2,h3⟩:=ZiZ hc xs ys r s (by simpa using hl) (fun z hz=>hx z (by simp [hz])) (fun z hz=>hy z (by simp [hz])) h
  exact ⟨by rw [h1,h2],h3⟩
theorem Ke {α:Type} {c:α→List Int} {G:α→Prop} (hc:PF c G):PF (ZE c) (fun xs=>xs.length < 2^63∧∀ x∈xs,G x):=by
 intro a b r s ha hb h
 simp only [ZE,List.append_assoc] at h
 obtain ⟨h1,h⟩:=Yw _ _ _ _ ⟨by omega,by have:=ha.1;omega⟩ ⟨by omega,by have:=hb.1;omega⟩ h
 exact ZiZ hc a b r s (by omega) ha.2 hb.2 h
theorem Zl5:PF idB Id.Small:=by
 intro a b r s ha hb h
 have h40:(2:Int)^40=1099511627776:=by decide
 obtain ⟨a1,a2,a3,a4,a5,a6⟩:=ha
 obtain ⟨b1,b2,b3,b4,b5,b6⟩:=hb
 simp only [idB,List.append_assoc] at h
 obtain ⟨h1,h⟩:=ZoC _ _ _ _ (show a.core.toNat < 2^64 by omega) (show b.core.toNat < 2^64 by omega) h
 obtain ⟨h2,h⟩:=ZoC _ _ _ _ (show a.op.toNat < 2^64 by omega) (show b.op.toNat < 2^64 by omega) h
 obtain ⟨h3,h⟩:=ZoC _ _ _ _ (show a.part.toNat < 2^64 by omega) (show b.part.toNat < 2^64 by omega) h
 refine ⟨?_,h⟩
 have e1:a.core=b.core:=by omega
 have e2:a.op=b.op:=by omega
 have e3:a.part=b.part:=by omega
 cases a;cases b
 simp only [Id.mk.injEq]
 exact ⟨e1,e2,e3⟩
theorem ZrV:PF ZjN (fun c=>∀ z∈Yt c,Rng z):=by
 intro a b r s ha hb h
 obtain ⟨h1,h2⟩:=ZiZ Zx1 (Yt a) (Yt b) r s rfl ha hb h
 refine ⟨?_,h2⟩
 cases a;cases b
 simp only [Yt,List.cons.injEq,and_true] at h1
 simp only [Call.mk.injEq]
 exact h1
def KN (n:J4):Prop:=ZR n=true∨n=ZS
theorem ZfE (n:J4):(Ko n).length≠0:=by
 simp [Ko,J7]
theorem ZfR:PF Kl KN:=by
 intro a b r s ha hb h
 simp only [Kl,List.append_assoc] at h
 have la:=ZaM a;have lb:=ZaM b
 obtain ⟨h1,h⟩:=Yw _ _ _ _ ⟨by omega,by omega⟩ ⟨by omega,by omega⟩ h
 have hl:(Y9 a).length=(Y9 b).length:=by omega
 obtain ⟨h2,h3⟩:=List.append_inj h hl
 refine ⟨?_,h3⟩
 have hn0:ZR ZS=false:=by decide
 rcases ha with ha | ha<;>rcases hb with hb | hb
 ·rw [Y9,Y9,if_pos ha,if_pos hb] at h2
  have:=Zf8 ha
  rw [h2,Zf8 hb] at this
  exact (Option.some.inj this).symm
 ·rw [Y9,Y9,if_pos ha,hb,if_neg (by rw [hn0];decide)] at h2
  exact absurd (by rw [h2];rfl) (ZfE a)
 ·rw [Y9,Y9,if_pos hb,ha,if_neg (by rw [hn0];decide)] at h2
  exact absurd (by rw [← h2];rfl) (ZfE b)
 ·rw [ha,hb]
structure Zrw (r:Req):Prop where
 good:r.Good
 src:KN r.src
theorem Zq6:PF ZcJ Zrw:=by
 intro a b r s ha hb h
 simp only [ZcJ,List.append_assoc] at h
 obtain ⟨h1,h⟩:=Zl5 _ _ _ _ ha.good.id hb.good.id h
 obtain ⟨h2,h⟩:=ZrV _ _ _ _ ha.good.call hb.good.call h
 obtain ⟨h3,h⟩:=Yw _ _ _ _ ⟨ha.good.reg0,ha.good.reg1⟩ ⟨hb.good.reg0,hb.good.reg1⟩ h
 obtain ⟨h4,h⟩:=Yw _ _ _ _ ⟨ha.good.wid0,ha.good.wid1⟩ ⟨hb.good.wid0,hb.good.wid1⟩ h
 obtain ⟨h5,h⟩:=ZfR _ _ _ _ ha.src hb.src h
 refine ⟨?_,h⟩
 cases a;cases b
 simp only [Req.mk.injEq]
 exact ⟨h1,h2,h3,h4,h5⟩
theorem Zum:PF Vc (fun x=>KN x.node∧N63 x.op∧x.lock.Small):=by
 intro a b r s ha hb h
 simp only [Vc,List.append_assoc] at h
 obtain ⟨h1,h⟩:=ZfR _ _ _ _ ha.1 hb.1 h
 obtain ⟨h2,h⟩:=Yw _ _ _ _ ha.2.1 hb.2.1 h
 obtain ⟨h3,h⟩:=Zl5 _ _ _ _ ha.2.2 hb.2.2 h
 refine ⟨?_,h⟩
 cases a;cases b
 simp only [YS.mk.injEq]
 exact ⟨h1,h2,h3⟩
theorem Zuh:PF K7 (fun x=>N63 x.region∧x.op.Small):=by
 intro a b r s ha hb h
 simp only [K7,List.append_assoc] at h
 obtain ⟨h1,h⟩:=Yw _ _ _ _ ha.1 hb.1 h
 obtain ⟨h2,h⟩:=Zl5 _ _ _ _ ha.2 hb.2 h
 refine ⟨?_,h⟩
 cases a;cases b
 simp only [ZbD.mk.injEq]
 exact ⟨h1,h2⟩
theorem Zvm:PF ZdN (fun x=>N63 x.op∧N63 x.err):=by
 intro a b r s ha hb h
 simp only [ZdN,List.append_assoc] at h
 obtain ⟨h1,h⟩:=Yw _ _ _ _ ha.1 hb.1 h
 obtain ⟨h2,h⟩:=Yw _ _ _ _ ha.2 hb.2 h
 refine ⟨?_,h⟩
 cases a;cases b
 simp only [Ans.mk.injEq]
 exact ⟨h1,h2⟩
theorem ZxN:PF Zcn (fun x=>N63 x.core∧N63 x.slot∧KN x.node):=by
 intro a b r s ha hb h
 simp only [Zcn,List.append_assoc] at h
 obtain ⟨h1,h⟩:=Yw _ _ _ _ ha.1 hb.1 h
 obtain ⟨h2,h⟩:=Yw _ _ _ _ ha.2.1 hb.2.1 h
 obtain ⟨h3,h⟩:=ZfR _ _ _ _ ha.2.2 hb.2.2 h
 refine ⟨?_,h⟩
 cases a;cases b
 simp only [ZD.mk.injEq]
 exact ⟨h1,h2,h3⟩
theorem Zsl:PF Zas (fun x=>N63 x.region∧N63 x.to):=by
 intro a b r s ha hb h
 simp only [Zas,List.append_assoc] at h
 obtain ⟨h1,h⟩:=Yw _ _ _ _ ha.1 hb.1 h
 obtain ⟨h2,h⟩:=Yw _ _ _ _ ha.2 hb.2 h
 refine ⟨?_,h⟩
 cases a;cases b
 simp only [Zff.mk.injEq]
 exact ⟨h1,h2⟩
theorem ZCH:PF bB (fun _=>True):=by
 intro a b r s _ _ h
 have z1:N63 1:=⟨by decide,by decide⟩
 have z0:N63 0:=⟨by decide,by decide⟩
 cases a<;>cases b<;>simp only [bB,if_true,Bool.false_eq_true,if_false] at h
 ·exact ⟨rfl,(Yw _ _ _ _ z0 z0 h).2⟩
 ·exact absurd (Yw _ _ _ _ z0 z1 h).1 (by decide)
 ·exact absurd (Yw _ _ _ _ z1 z0 h).1 (by decide)
 ·exact ⟨rfl,(Yw _ _ _ _ z1 z1 h).2⟩
structure ZcC (s:Jv):Prop where
 good:s.Good
 slot:∀ x∈s.slots,KN x.node
 req:∀ x∈s.pending,KN x.src
 entry:∀ x∈s.entries,KN x.node
theorem J5 {n:Nat} (h:n≤2097152):n < 2^63:=by omega
theorem Ze6:PF KI ZcC:=by
 intro a b r s ha hb h
 simp only [KI,List.append_assoc] at h
 obtain ⟨h1,h⟩:=Ke Zum _ _ _ _ ⟨J5 ha.good.slots,fun x hx=>⟨ha.slot x hx,(ha.good.slot x hx).2⟩⟩ ⟨J5 hb.good.slots,fun x hx=>⟨hb.slot x hx,(hb.good.slot x hx).2⟩⟩ h
 obtain ⟨h2,h⟩:=Ke Zq6 _ _ _ _ ⟨J5 ha.good.pending,fun x hx=>⟨ha.good.req x hx,ha.req x hx⟩⟩ ⟨J5 hb.good.pending,fun x hx=>⟨hb.good.req x hx,hb.req x hx⟩⟩ h
 obtain ⟨h3,h⟩:=Ke Zuh _ _ _ _ ⟨J5 ha.good.marks,ha.good.mark⟩ ⟨J5 hb.good.marks,hb.good.mark⟩ h
 obtain ⟨h4,h⟩:=Ke Zvm _ _ _ _ ⟨J5 ha.good.answers,ha.good.ans⟩ ⟨J5 hb.good.answers,hb.good.ans⟩ h
 obtain ⟨h5,h⟩:=Ke ZxN _ _ _ _ ⟨J5 ha.good.entries,fun x hx=>⟨(ha.good.entry x hx).1,(ha.good.entry x hx).2.1,ha.entry x hx⟩⟩ ⟨J5 hb.good.entries,fun x hx=>⟨(hb.good.entry x hx).1,(hb.good.entry x hx).2.1,hb.entry x hx⟩⟩ h
 obtain ⟨h6,h⟩:=Ke Zl5 _ _ _ _ ⟨J5 ha.good.commits,ha.good.commit⟩ ⟨J5 hb.good.commits,hb.good.commit⟩ h
 refine ⟨?_,h⟩
 cases a;cases b
 simp only [Jv.mk.injEq]
 exact ⟨h1,h2,h3,h4,h5,h6⟩
theorem ZjK:PF Zaj Vu.Good:=by
 intro a b r s ha hb h
 simp only [Zaj,List.append_assoc] at h
 obtain ⟨h1,h⟩:=Yw _ _ _ _ ha.num hb.num h
 obtain ⟨h2,h⟩:=Ke Yw _ _ _ _ ⟨J5 ha.members,ha.member⟩ ⟨J5 hb.members,hb.member⟩ h
 obtain ⟨h3,h⟩:=Ke Yw _ _ _ _ ⟨J5 ha.owners,ha.owner⟩ ⟨J5 hb.owners,hb.owner⟩ h
 refine ⟨?_,h⟩
 cases a;cases b
 simp only [Vu.mk.injEq]
 exact ⟨h1,h2,h3⟩
structure ZiV (r:Jl):Prop where
 core:N63 r.core
 view:r.view.Good
 state:ZcC r.state
 next:r.next.Good
 proposal:ZcC r.proposal
theorem Zyd:PF Zml ZiV:=by
 intro a b r s ha hb h
 simp only [Zml,List.append_assoc] at h
 obtain ⟨h1,h⟩:=Yw _ _ _ _ ha.core hb.core h
 obtain ⟨h2,h⟩:=ZjK _ _ _ _ ha.view hb.view h
 obtain ⟨h3,h⟩:=Ze6 _ _ _ _ ha.state hb.state h
 obtain ⟨h4,h⟩:=ZCH _ _ _ _ trivial trivial h
 obtain ⟨h5,h⟩:=ZjK _ _ _ _ ha.next hb.next h
 obtain ⟨h6,h⟩:=Ze6 _ _ _ _ ha.proposal hb.proposal h
 refine ⟨?_,h⟩
 cases a;cases b
 simp only [Jl.mk.injEq]
 exact ⟨h1,h2,h3,h4,h5,h6⟩
def eqF (a b:Msg):Nat→Prop
 | 0 => a.region = b.region
 | 1 => a.req = b.req
 | 2 => a.op = b.op
 | 3 => a.err = b.err
 | 4 => a.settled = b.settled
 | 5 => a.nodes = b.nodes
 | 6 => a.slot = b.slot
 | 7 => a.ids = b.ids
 | 8 => a.round = b.round
 | 9 => a.cores = b.cores
 | 10 => a.report = b.report
 | 11 => a.base = b.base
 | 12 => a.next = b.next
 | 13 => a.state = b.state
 | 14 => a.moves = b.moves
 | _ => True
theorem Zgf {a:J4} (h:K3 a ZS=true):a=ZS:=by
 simp only [K3,Bool.and_eq_true,decide_eq_true_eq] at h
 obtain ⟨⟨h1,h2⟩,h3⟩:=h
 obtain ⟨i,p,c⟩:=a
 obtain ⟨k,b,bs,rt,w,l,d⟩:=c
 dsimp only at h1 h2 h3
 subst h1 h3
 obtain ⟨rfl,rfl,rfl,rfl,rfl,rfl,rfl⟩:=h2
 rfl
theorem Zkp {r:Req} (h:K8 r=true):KN r.src:=by
 simp only [K8,Bool.and_eq_true] at h
 have h:=h.2
 split at h
 ·exact .inr (Zgf h)
 ·exact .inl h
theorem Ztw {s:YS} (h:Zcr s=true):KN s.node:=by
 simp only [Zcr,Bool.and_eq_true] at h
 have h:=h.2
 split at h
 ·rw [Bool.and_eq_true] at h;exact .inr (Zgf h.1)
 ·rw [Bool.and_eq_true] at h;exact .inl h.1
theorem VF {s:Jv} (h:YC s=true) (hg:s.Good):ZcC s:=by
 simp only [YC,Bool.and_eq_true,List.all_eq_true] at h
 obtain ⟨⟨⟨⟨⟨h1,h2⟩,h3⟩,h4⟩,h5⟩,h6⟩:=h
 refine ⟨hg,fun x hx=>?_,fun x hx=>Zkp (h2.1 x hx),fun x hx=>?_⟩
 ·obtain ⟨i,hi,rfl⟩:=List.getElem_of_mem hx
  simp only [VY,Bool.and_eq_true,List.all_eq_true] at h1
  have:=(h1.2 i (by rw [List.mem_range'_1];omega)).1
  rw [Yg _ hi] at this
  exact Ztw this
 ·have:=h5.1 x hx
  simp only [ZaQ,Bool.and_eq_true] at this
  exact .inl this.2
theorem Zpi {a b:Msg} (ga:a.Good) (gb:b.Good) {f:Nat} (ha:ZK a f=true) (hb:ZK b f=true) {r s:List Int} (h:Yf a f++r=Yf b f++s):eqF a b f∧r=s:=by
 match f with
 | 0 => exact Yw _ _ _ _ ga.region gb.region h
 | 1 => exact Zq6 _ _ _ _ ⟨ga.req, Zkp ha⟩ ⟨gb.req, Zkp hb⟩ h
 | 2 => exact Zl5 _ _ _ _ ga.op gb.op h
 | 3 => exact Yw _ _ _ _ ga.err gb.err h
 | 4 => exact ZCH _ _ _ _ trivial trivial h
 | 5 =>
  simp only [ZK,Bool.and_eq_true,List.all_eq_true] at ha hb
  exact Ke ZfR _ _ _ _ ⟨J5 ga.nodesn,fun x hx=>.inl (ha.2 x hx)⟩ ⟨J5 gb.nodesn,fun x hx=>.inl (hb.2 x hx)⟩ h
 | 6 => exact Yw _ _ _ _ ga.slot gb.slot h
 | 7 => exact Ke Zl5 _ _ _ _ ⟨J5 ga.idsn, ga.ids⟩ ⟨J5 gb.idsn, gb.ids⟩ h
 | 8 => exact Yw _ _ _ _ ga.round gb.round h
 | 9 => exact Ke Yw _ _ _ _ ⟨J5 ga.coresn, ga.cores⟩ ⟨J5 gb.coresn, gb.cores⟩ h
 | 10 =>
  simp only [ZK,Zfd,Bool.and_eq_true] at ha hb
  exact Zyd _ _ _ _ ⟨ga.report.core,ga.report.view,VF ha.1.1.2 ga.report.state,ga.report.next,VF ha.2 ga.report.proposal⟩ ⟨gb.report.core,gb.report.view,VF hb.1.1.2 gb.report.state,gb.report.next,VF hb.2 gb.report.proposal⟩ h
 | 11 => exact Yw _ _ _ _ ga.base gb.base h
 | 12 => exact ZjK _ _ _ _ ga.next gb.next h
 | 13 => exact Ze6 _ _ _ _ (VF ha ga.state) (VF hb gb.state) h
 | 14 => exact Ke Zsl _ _ _ _ ⟨J5 ga.movesn, fun x hx => ga.moves x hx⟩ ⟨J5 gb.movesn, fun x hx => gb.moves x hx⟩ h
 | n + 15 => exact ⟨trivial, h⟩
theorem ZhO {a b:Msg} (ga:a.Good) (gb:b.Good):∀ (L:List Nat) (r s:List Int),(∀ f∈L,ZK a f=true)→(∀ f∈L,ZK b f=true)→(L.map (Yf a)).flatten++r=(L.map (Yf b)).flatten++s→(∀ f∈L,eqF a b f)∧r=s
 | [], r, s, _, _, h => ⟨fun f hf => (by cases hf), by simpa using h⟩
 | f :: L, r, s, ha, hb, h => by
  simp only [List.map_cons,List.flatten_cons,List.append_assoc] at h
  obtain ⟨h1,h⟩:=Zpi ga gb (ha f (by simp)) (hb f (by simp)) h
  obtain ⟨h2,h3⟩:=ZhO ga gb L r s (fun g hg=>ha g (by simp [hg])) (fun g hg=>hb g (by simp [hg])) h
  refine ⟨fun g hg=>?_,h3⟩
  rw [List.mem_cons] at hg
  rcases hg with rfl | hg
  ·exact h1
  ·exact h2 g hg
theorem Ki {α:Type} {l:List α} (h:l.length=0):l = []:=List.eq_nil_of_length_eq_zero h
theorem ZnQ {r:Req} (h:ZtW r=true):r=Jg:=by
 simp only [ZtW,Bool.and_eq_true,decide_eq_true_eq] at h
 obtain ⟨⟨⟨⟨h1,h2⟩,h3⟩,h4⟩,h5⟩:=h
 obtain ⟨i,c,rg,w,n⟩:=r
 obtain ⟨c0,c1,c2,c3,c4,c5,c6,c7,c8,c9,c10,c11⟩:=c
 dsimp only at h1 h2 h3 h4 h5
 have hn:=Zgf h5
 subst h1 h3 h4 hn
 obtain ⟨rfl,rfl,rfl,rfl,rfl,rfl,rfl,rfl,rfl,rfl,rfl,rfl⟩:=h2
 rfl
theorem Zco {v:Vu} (h:Zcz v=true):v=ZQ:=by
 simp only [Zcz,Bool.and_eq_true,decide_eq_true_eq] at h
 obtain ⟨n,m,o⟩:=v
 dsimp only at h
 obtain ⟨⟨h1,h2⟩,h3⟩:=h
 rw [h1,Ki h2,Ki h3];rfl
theorem Za1 {s:Jv} (h:WE s=true):s=Zq:=by
 simp only [WE,Bool.and_eq_true,decide_eq_true_eq] at h
 obtain ⟨a,b,c,d,e,f⟩:=s
 dsimp only at h
 obtain ⟨⟨⟨⟨⟨h1,h2⟩,h3⟩,h4⟩,h5⟩,h6⟩:=h
 rw [Ki h1,Ki h2,Ki h3,Ki h4,Ki h5,Ki h6];rfl
theorem ZeZ {r:Jl} (h:W5 r=true):r=Zu:=by
 simp only [W5,Bool.and_eq_true,decide_eq_true_eq,Bool.not_eq_true'] at h
 obtain ⟨a,b,c,d,e,f⟩:=r
 dsimp only at h
 obtain ⟨⟨⟨⟨⟨h1,h2⟩,h3⟩,h4⟩,h5⟩,h6⟩:=h
 rw [h1,Zco h2,Za1 h3,h4,Zco h5,Za1 h6];rfl
theorem Zvg {a b:Msg} {g:Nat} (ha:zf a g=true) (hb:zf b g=true):eqF a b g:=by
 match g with
 | 0 => simp only [zf, decide_eq_true_eq] at ha hb; show a.region = b.region; rw [ha, hb]
 | 1 => show a.req = b.req; rw [ZnQ ha, ZnQ hb]
 | 2 => simp only [zf, decide_eq_true_eq] at ha hb; show a.op = b.op; rw [ha, hb]
 | 3 => simp only [zf, decide_eq_true_eq] at ha hb; show a.err = b.err; rw [ha, hb]
 | 4 => simp only [zf, Bool.not_eq_true'] at ha hb; show a.settled = b.settled; rw [ha, hb]
 | 5 => simp only [zf, decide_eq_true_eq] at ha hb; show a.nodes = b.nodes; rw [Ki ha, Ki hb]
 | 6 => simp only [zf, decide_eq_true_eq] at ha hb; show a.slot = b.slot; rw [ha, hb]
 | 7 => simp only [zf, decide_eq_true_eq] at ha hb; show a.ids = b.ids; rw [Ki ha, Ki hb]
 | 8 => simp only [zf, decide_eq_true_eq] at ha hb; show a.round = b.round; rw [ha, hb]
 | 9 => simp only [zf, decide_eq_true_eq] at ha hb; show a.cores = b.cores; rw [Ki ha, Ki hb]
 | 10 => show a.report = b.report; rw [ZeZ ha, ZeZ hb]
 | 11 => simp only [zf, decide_eq_true_eq] at ha hb; show a.base = b.base; rw [ha, hb]
 | 12 => show a.next = b.next; rw [Zco ha, Zco hb]
 | 13 => show a.state = b.state; rw [Za1 ha, Za1 hb]
 | 14 => simp only [zf, decide_eq_true_eq] at ha hb; show a.moves = b.moves; rw [Ki ha, Ki hb]
 | n + 15 => exact trivial
theorem Zn3 {a b:Msg} (h1:a.kind=b.kind) (h2:a.view=b.view) (h3:a.frm=b.frm) (h4:a.to=b.to) (h:∀ g,g < 15→eqF a b g):a=b:=by
 have e0:a.region=b.region:=h 0 (by decide)
 have e1:a.req=b.req:=h 1 (by decide)
 have e2:a.op=b.op:=h 2 (by decide)
 have e3:a.err=b.err:=h 3 (by decide)
 have e4:a.settled=b.settled:=h 4 (by decide)
 have e5:a.nodes=b.nodes:=h 5 (by decide)
 have e6:a.slot=b.slot:=h 6 (by decide)
 have e7:a.ids=b.ids:=h 7 (by decide)
 have e8:a.round=b.round:=h 8 (by decide)
 have e9:a.cores=b.cores:=h 9 (by decide)
 have e10:a.report=b.report:=h 10 (by decide)
 have e11:a.base=b.base:=h 11 (by decide)
 have e12:a.next=b.next:=h 12 (by decide)
 have e13:a.state=b.state:=h 13 (by decide)
 have e14:a.moves=b.moves:=h 14 (by decide)
 cases a;cases b
 simp only [Msg.mk.injEq]
 exact ⟨h1,h2,h3,h4,e8,e0,e6,e2,e3,e4,e1,e7,e5,e9,e14,e11,e12,e13,e10⟩
structure ZoS (m:Msg):Prop where
 good:m.Good
 valid:Ka m=true
theorem ZmU:PF ZdP ZoS:=by
 intro a b r s ha hb h
 simp only [ZdP,ZlJ,List.append_assoc] at h
 obtain ⟨h1,h⟩:=Yw _ _ _ _ ha.good.kind hb.good.kind h
 obtain ⟨h2,h⟩:=Yw _ _ _ _ ha.good.view hb.good.view h
 obtain ⟨h3,h⟩:=Yw _ _ _ _ ha.good.frm hb.good.frm h
 obtain ⟨h4,h⟩:=Yw _ _ _ _ ha.good.to hb.good.to h
 have va:=ha.valid;have vb:=hb.valid
 simp only [Ka,Bool.and_eq_true,List.all_eq_true] at va vb
 rw [← h1] at h vb
 obtain ⟨h5,h6⟩:=ZhO ha.good hb.good _ _ _ va.2.1 vb.2.1 h
 refine ⟨Zn3 h1 h2 h3 h4 fun g hg=>?_,h6⟩
 by_cases hk:g∈kf a.kind.toNat
 ·exact h5 g hk
 ·have ra:=va.2.2;have rb:=vb.2.2
  simp only [rest,List.all_eq_true,List.mem_range,Bool.or_eq_true] at ra rb
  have hk':¬ (kf a.kind.toNat).contains g=true:=fun h=>hk (List.contains_iff_mem.1 h)
  exact Zvg ((ra g hg).resolve_left hk') ((rb g hg).resolve_left hk')
end Go.Proofs.YtjldbnbdcmfbmaaGreat
end

section
namespace Go.Proofs.YtjldbnbdcmfbmaaGreat
open Go Go.AM
set_option linter.unusedSimpArgs false
set_option linter.unusedVariables false
set_option maxRecDepth 100000
theorem ZqI {a b:List Int} (ha:Zv a) (hb:Zv b) (h:ByteArray.toList (bytesOf (Zd a))=ByteArray.toList (bytesOf (Zd b))):a=b:=by
 rw [ByteArray.toList_eq,ByteArray.toList_eq] at h
 exact ZeX a b ha hb (by simpa [bytesOf] using h)
end Go.Proofs.YtjldbnbdcmfbmaaGreat
end

section
namespace Go.Proofs.YtjldbnbdcmfbmaaGreat
open Go Go.AM
set_option linter.unusedSimpArgs false
set_option linter.unusedVariables false
set_option maxRecDepth 100000
theorem Zp1:Ret (fun r=>r=true) ((g9).bind fun (r:Bool)=>some (r)):=Jc s9 (Zg rfl)
theorem StS.sized {s:Jv} (h:StS s) (hc:Zel s):s.Sized:=by
 have h1:=h.slots;have h2:=h.pend;have h3:=h.marks;have h4:=h.answers;have h5:=h.entries;have h6:=h.commits
 exact ⟨by omega,by omega,by omega,by omega,by omega,by omega,fun x hx=>by have:=h.spath x hx;omega,fun x hx=>⟨by have:=h.psrc x hx;omega,hc x hx⟩,fun x hx=>by have:=h.epath x hx;omega⟩
theorem VwG.sized {v:Vu} (h:VwG v):v.Sized:=⟨by have:=h.members;omega,by have:=h.owners;omega⟩
theorem MsS.sized {m:Msg} (h:MsS m) (hc:ZmA m):m.Sized:=⟨by have:=h.req;omega,hc.1,by have:=h.ids;omega,by have:=h.nodes;omega,fun x hx=>by have:=h.node x hx;omega,by have:=h.cores;omega,by have:=h.moves;omega,h.next.sized,h.state.sized hc.2.1,⟨h.report.view.sized,h.report.state.sized hc.2.2.1,h.report.next.sized,h.report.proposal.sized hc.2.2.2⟩⟩
theorem StS.shrt {s:Jv} (h:StS s):s.Short:=⟨by have:=h.slots;omega,by have:=h.pend;omega,by have:=h.marks;omega,by have:=h.answers;omega,by have:=h.entries;omega,by have:=h.commits;omega⟩
theorem MsS.shrt {m:Msg} (h:MsS m):m.Short:=⟨by have:=h.ids;omega,by have:=h.nodes;omega,by have:=h.cores;omega,by have:=h.moves;omega,by have:=h.next.members;omega,by have:=h.next.owners;omega,by have:=h.report.view.members;omega,by have:=h.report.view.owners;omega,by have:=h.report.next.members;omega,by have:=h.report.next.owners;omega,h.state.shrt,h.report.state.shrt,h.report.proposal.shrt⟩
theorem MsS.gm {m:Msg} (h:MsS m) (hc:ZmA m) (hv:Ka m=true):ZoS m:=⟨Zfe (h.sized hc) h.shrt hv,hv⟩
end Go.Proofs.YtjldbnbdcmfbmaaGreat
end

section
namespace Go.Proofs.YtjldbnbdcmfbmaaGreat
open Go Go.AM
set_option linter.unusedSimpArgs false
set_option linter.unusedVariables false
set_option maxRecDepth 100000
theorem Zgm {x:AV} (h:Zae Tryz.prog 12 3 x):∃ z,x=I z:=by
 simp only [Zae,Tryz.underlying3] at h
 obtain ⟨z,hz,_⟩:=WB h.2
 exact ⟨z,by simpa using hz⟩
theorem ZrQ {x:AV} (h:Zae Tryz.prog 12 5 x):∃ z,x = .val (.int .u8 z)∧0≤z∧z < 256:=by
 simp only [Zae,Tryz.underlying5] at h
 have h2:=h.2
 simp only [TyZ,Tryz.underlying5] at h2
 obtain ⟨z,hz,hw⟩:=h2
 refine ⟨z,by simpa using hz,?_⟩
 have h1:IntKind.u8.min=0:=by decide
 have h2:IntKind.u8.max=255:=by decide
 simp [Lit.wf,h1,h2] at hw
 omega
theorem ZhD {x:AV} (h:Zae Tryz.prog 12 22 x):∃ l:List Int,x = .slice false 1 (Za l)∧RL l∧l.length < 2^63:=by
 simp only [Zae,Tryz.underlying22] at h
 have h2:=h.2
 rw [TyZ] at h2
 simp only [Tryz.underlying22,Zta] at h2
 obtain ⟨xs,h1,h0,h2,h3⟩:=h2
 obtain ⟨l,rfl,h5⟩:=ZdK (f:=Wo) (p:=fun x=>Rng x) xs fun y hy=>WB (h3 y hy)
 exact ⟨l,by simpa [Za] using h1,h5,ZDb (by simpa using h2)⟩
theorem Zs2 {d:Nat} {cs:List AV} (h:TyZ Tryz.prog (d+2) 84 cs):∃ s:Zq9,cs=Vn s:=by
 rw [TyZ] at h
 simp only [Tryz.underlying84] at h
 obtain ⟨ps,rfl,hl,hp⟩:=h
 obtain ⟨p0,p1,p2,p3,p4,p5,p6,p7,p8,p9,rfl⟩:∃ p0 p1 p2 p3 p4 p5 p6 p7 p8 p9,ps = [p0,p1,p2,p3,p4,p5,p6,p7,p8,p9]:=by
  match ps,hl with
  | [p0, p1, p2, p3, p4, p5, p6, p7, p8, p9], _ => exact ⟨p0, p1, p2, p3, p4, p5, p6, p7, p8, p9, rfl⟩
 obtain ⟨a,rfl⟩:=Zm0 (hp 0 _ _ rfl rfl)
 obtain ⟨b,rfl,_⟩:=WB (hp 1 _ _ rfl rfl)
 obtain ⟨c,rfl,_⟩:=WB (hp 2 _ _ rfl rfl)
 obtain ⟨d,rfl,_⟩:=WB (hp 3 _ _ rfl rfl)
 obtain ⟨e,rfl,_⟩:=WB (hp 4 _ _ rfl rfl)
 obtain ⟨f,rfl,_⟩:=WB (hp 5 _ _ rfl rfl)
 obtain ⟨g,rfl,_⟩:=WB (hp 6 _ _ rfl rfl)
 obtain ⟨i,rfl,_⟩:=WB (hp 7 _ _ rfl rfl)
 obtain ⟨j,rfl,_⟩:=WB (hp 8 _ _ rfl rfl)
 obtain ⟨k,rfl⟩:=Zm0 (hp 9 _ _ rfl rfl)
 exact ⟨⟨a,b,c,d,e,f,g,i,j,k⟩,rfl⟩
theorem Zew {x:AV} (h:Zae Tryz.prog 12 23 x):∃ l:List Zq9,x = .slice false 10 (l.map Vn)∧l.length < 2^63:=by
 simp only [Zae,Tryz.underlying23] at h
 have hh:=h.2
 rw [TyZ] at hh
 simp only [Tryz.underlying23,Zv3] at hh
 obtain ⟨xs,h1,_,h2,h3⟩:=hh
 obtain ⟨l,rfl,h5⟩:=ZdK (f:=Vn) (p:=fun _=>True) xs fun y hy=>(Zs2 (h3 y hy)).elim fun a h=>⟨a,h,trivial⟩
 exact ⟨l,by simpa using h1,ZDb (by simpa using h2)⟩
end Go.Proofs.YtjldbnbdcmfbmaaGreat
end
