import Derived.Test.YtnkmbgbpkgmbnaaGreatFQf
import Derived.Test.YtnkmbgbpkgmbnaaGreatM3
import Derived.ChangeArms
import Derived.ChangeStays
import Derived.ChangeBook
import Derived.ChangeSame
import Derived.RowKit
import Derived.ChangeOld
import GoSem.ClaimJoined
import GoSem.ClaimOpenFrom
import Derived.KernelRfl
import Derived.Test.YtnkmbgbpkgmbnaaGreatRows
import Derived.Test.YtnkmbgbpkgmbnaaGreatChecked
import Derived.JoinedOf
import Derived.JoinedAt
import Derived.RowKit3
open Option renaming some→Xa,none→Xe,map_some→XA
open Bool renaming false→Xb,true→Xc,and_eq_true→Xk
open Option.some renaming injEq→Xf
open List renaming getElem?_eq_getElem→Xm,getElem?_map→Xp,mem_map→Xs,getElem?_eq_some_iff→Xx,all_eq_true→XE,getElem?_append_right→XG,getElem?_append_left→XH,getElem?_cons_zero→XM,mem_iff_getElem?→X6,flatten_cons→Un,append_nil→UG
set_option linter.unusedVariables false
set_option linter.unusedSimpArgs false
set_option linter.defProp false
namespace Go.Proofs.YtnkmbgbpkgmbnaaGreat
open Go Go.AM
set_option maxRecDepth 100000
noncomputable def F16:Fn:=⟨211,[4,5],[(13,[(0,.box hs5),(127,.c (.slice 3)),(128,.c (.int .i64)),(129,.c (.int .i64))])],[0],0,[],[(1000000,[(4,0)])],Tryz.f16,[.box hs5,.agg hs0],[.c (.slice 74),.c (.slice 4)],[(46,F46.S),(47,F47.S),(48,F48.S),(49,F49.S),(50,F50.S),(43,F43.S)]⟩
def ZyR:F16.S.Ok Tryz.prog 16:=F16.ok Tryz.func16 ⟨ZB4,⟨ZAt,⟨Zwh,⟨ZBc,⟨ZAw,⟨ZAk,trivial⟩⟩⟩⟩⟩⟩
noncomputable def g16 (x0 x1 x2:Int) (x3:Bool) (x4 x5:LL) (x6 x7 x8 x9 q r s t u v w x y z A C D E G H:Int) (J:LL) (L M N O Q R:Int) (T:Bool) (U:Int) (W X Y:LL) (Z aa ab ac ad ae af ag ah ai aj:Int) (ak:Bool) (al am an ao ap aq ar au av aw ax ay az a0 a1 a2 a3 a4 a5 a6:Int) (a7:LL) (a8 a9 ba bb bc bd:Int) (be:Bool) (bf bg bh bi:LL) (bj bk:Int) (bm bn bo bp bq br bs bt:LL) (bu bv:Int) (bw bx bz b0 b1 b2 a c:LL) (d:Bool) (e:Int) (f h j k m n o p:LL):Option (Qt12):=F16.S.g [.i x0,.i x1,.i x2,.b x3,.l x4,.l x5,.i x6,.i x7,.i x8,.i x9,.i q,.i r,.i s,.i t,.i u,.i v,.i w,.i x,.i y,.i z,.i A,.i C,.i D,.i E,.i G,.i H,.l J,.i L,.i M,.i N,.i O,.i Q,.i R,.b T,.i U,.l W,.l X,.l Y,.i Z,.i aa,.i ab,.i ac,.i ad,.i ae,.i af,.i ag,.i ah,.i ai,.i aj,.b ak,.i al,.i am,.i an,.i ao,.i ap,.i aq,.i ar,.i au,.i av,.i aw,.i ax,.i ay,.i az,.i a0,.i a1,.i a2,.i a3,.i a4,.i a5,.i a6,.l a7,.i a8,.i a9,.i ba,.i bb,.i bc,.i bd,.b be,.l bf,.l bg,.l bh,.l bi,.i bj,.i bk,.l bm,.l bn,.l bo,.l bp,.l bq,.l br,.l bs,.l bt,.i bu,.i bv,.l bw,.l bx,.l bz,.l b0,.l b1,.l b2,.l a,.l c,.b d,.i e,.l f,.l h,.l j,.l k,.l m,.l n,.l o,.l p]
noncomputable def F51:Fn:=⟨2,[0],[],[],0,[],[],Tryz.f51,[],[.agg [.int .i64,.int .i64,.bool]],[]⟩
def ZAS:F51.S.Ok Tryz.prog 51:=F51.ok Tryz.func51
noncomputable def F52:Fn:=⟨16,[8],[],[],0,[],[],Tryz.f52,[.c (.int .i64),.c (.int .i64),.c (.int .i64),.c (.int .i64)],[.agg hs9],[]⟩
def ZBC:F52.S.Ok Tryz.prog 52:=F52.ok Tryz.func52
noncomputable def F18:Fn:=⟨63,[0],[],[],0,[],[],Tryz.f18,[],[.c (.bool)],[(51,F51.S),(5,F5.S),(52,F52.S),(13,F13.S),(16,F16.S),(15,F15.S)]⟩
def ZA1:F18.S.Ok Tryz.prog 18:=F18.ok Tryz.func18 ⟨ZAS,⟨ok5,⟨ZBC,⟨ZAD,⟨ZyR,⟨Zz0,trivial⟩⟩⟩⟩⟩⟩
noncomputable def g18:Option (Bool):=F18.S.g []
end Go.Proofs.YtnkmbgbpkgmbnaaGreat
namespace Go.AM
def TyR (P:Program):Nat→TypeId→List AV→Prop
 | 0, _, _ => False
 | d + 1, T, cs =>
  match P.underlying T with
  | some (.int k) => ∃ z, cs = [.val (.int k z)] ∧ (Lit.int k z).wf = Xc
  | some .bool => ∃ b, cs = [.val (.bool b)]
  | some .string => ∃ s, cs = [.val (.string s)]
  | some (.slice e) => ∃ xs : List (List AV), cs = [.slice Xb (P.cellsOf e) xs] ∧ xs.length ≤ maxLen ∧ ∀ x ∈ xs, TyR P d e x
  | some (.struct fs) => ∃ a : List (List AV), cs = a.flatten ∧ a.length = fs.size ∧ ∀ (i : Nat) (f : Field) (p : List AV), fs[i]? = Xa f → a[i]? = Xa p → TyR P d f.type p
  | _ => False
def Zbl (P:Program):Nat→TypeId→Bool
 | 0, _ => Xb
 | d + 1, T =>
  match P.underlying T with
  | some (.int _) => Xc
  | some .bool => Xc
  | some .string => Xc
  | some (.slice e) => Zbl P d e && decide (0 < P.cellsOf e)
  | some (.struct fs) => (fs.toList.all fun f => Zbl P d f.type) && decide (P.cellsOf T = (fs.toList.map fun f => P.cellsOf f.type).sum) &&
    (fs.toList.zipIdx.all fun p=>decide (p.1.offset=((fs.toList.take p.2).map fun f=>P.cellsOf f.type).sum))
  | _ => Xb
def Vn (w:World):Nat→Nat:=fun b=>match w.heap[b]? with | some (.cells c _ _)=>c.size | _=>0
def Zl9 {w:World} {b o:Nat} {u:Value} (h:w.cell? ⟨b,o,Xe⟩=Xa u):o < Vn w b:=by
 unfold World.cell? at h;unfold Vn;split at h
 ·rename_i c t d e;have f:c[o]? = Xa u:=by simpa using h
  have a:w.heap[b]? = Xa (.cells c t d):=e;rw [a];exact (Array.getElem?_eq_some_iff.1 f).1
 ·cases h
def Ys.flat {w:World} {lim:Nat→Nat} : ∀ (e:List (List AV)) (us:List (List Value)),e.length=us.length→(∀ (i:Nat) (a:List AV) (u:List Value),e[i]? = Xa a→us[i]? = Xa u→Ys w lim a u)→Ys w lim e.flatten us.flatten
 | [], [], _, _ => Ys.nil w lim
 | [], _ :: _, h, _ => by simp at h
 | _ :: _, [], h, _ => by simp at h
 | a :: e, u :: us, h, hr => by
  have d:=hr 0 a u rfl rfl;have g:=Ys.flat e us (by simpa using h) fun i j k l m=>hr (i+1) j k (by simpa using l) (by simpa using m);refine ⟨by simp [d.1,g.1],fun c b=>?_,fun i c v b f=>?_⟩
  ·rw [Un,List.mem_append] at b;rcases b with b | b
   ·exact d.2.1 c b
   ·exact g.2.1 c b
  ·rw [Un] at b f;by_cases hi:i < a.length
   ·rw [XH hi] at b;rw [XH (by rw [← d.1];exact hi)] at f;exact d.2.2 i c v b f
   ·rw [XG (by omega)] at b;rw [XG (by rw [← d.1];omega),← d.1] at f;exact g.2.2 _ c v b f
def Zqc {d:Type} : ∀ (a:List Nat) (cs:List d),cs.length=a.sum→∃ b:List (List d),b.length=a.length∧b.flatten=cs∧∀ (i:Nat) (n:Nat),a[i]? = Xa n→b[i]? = Xa ((cs.drop (a.take i).sum).take n)
 | [], cs, h => ⟨[], rfl, by simp at h; simp [h], by simp⟩
 | n :: a, cs, h => by
  obtain ⟨b,e,f,g⟩:=Zqc a (cs.drop n) (by simp only [List.sum_cons] at h;simp;omega);refine ⟨cs.take n::b,by simp [e],by rw [Un,f,List.take_append_drop],fun i m c=>?_⟩
  cases i with
  | zero => simp at c; subst c; simp
  | succ i =>
   have:=g i m (by simpa using c);simp only [List.getElem?_cons_succ,this,List.take_succ_cons,List.sum_cons,List.drop_drop]
def Wy {d:Type} {Q:Nat→d→Prop} : ∀ (n:Nat),(∀ i,i < n→∃ b,Q i b)→∃ l:List d,l.length=n∧∀ (i:Nat) (b:d),l[i]? = Xa b→Q i b
 | 0, _ => ⟨[], rfl, by simp⟩
 | n + 1, h => by
  obtain ⟨l,f,g⟩:=Wy n fun i e=>h i (by omega);obtain ⟨b,j⟩:=h n (by omega);refine ⟨l++[b],by simp [f],fun i c a=>?_⟩;by_cases e:i < l.length
  ·rw [XH e] at a;exact g i c a
  ·rw [XG (by omega)] at a
   have k:i-l.length=0:=by
    have:=(Xx.1 a).1;simp at this;omega
   rw [k] at a;simp only [XM,Xf] at a;subst a;have:i=n:=by omega
   rw [this];exact j
def ZdC {s:Nat} {cell:Nat→Option Value} : ∀ (l:List (List Value)) (o:Nat),(∀ (i:Nat) (us:List Value),l[i]? = Xa us→us.length=s∧∀ (k:Nat) (u:Value),us[k]? = Xa u→cell (o+i*s+k)=Xa u)→
  ∀ (j:Nat) (u:Value),l.flatten[j]? = Xa u→cell (o+j)=Xa u
 | [], o, _, j, u, h => by simp at h
 | us :: l, o, h, j, u, hj => by
  obtain ⟨m,b⟩:=h 0 us rfl;rw [Un] at hj;by_cases hlt:j < us.length
  ·rw [XH hlt] at hj;have:=b j u hj;simpa using this
  ·rw [XG (by omega)] at hj
   have:=ZdC l (o+s) (fun i a c=>by
    obtain ⟨d,e⟩:=h (i+1) a (by simpa using c);refine ⟨d,fun k f g=>?_⟩;have:=e k f g;rw [Nat.add_mul,Nat.one_mul] at this;rw [show o+s+i*s+k=o+(i*s+s)+k by omega];exact this) (j-us.length) u hj
   rw [show o+s+(j-us.length)=o+j by omega] at this;exact this
def Zkx {H:Type} {f:Func} {s:ChangeSpec} {c n d o:Bool} {W W':World} {args:Array Value} {v:Value} {ds q:List (DataW H)} {before pa:List MemPlace} {P:Program} {enc:TypeId×Value→H}
  (x:DataW.Whole enc P f.params.toList s.vars c W args.toList ds q before)
  (k:∀ (b:Nat) (sp:Nat→Bool) (D:Bool),DataW.TrodAll enc P W' b sp D f.resultTypes.toList (v.resultList f.resultTypes.size) (s.fn H (ds++q)).results [])
  (e:∀ sp:Nat→Bool,(∀ p∈before,sp p.block=Xc)→DataW.TrodAll enc P W' 0 sp Xc f.params.toList args.toList (s.fn H (ds++q)).args pa)
  (g:∀ sp:Nat→Bool,(∀ p∈before,sp p.block=Xc)→DataW.TrodVars enc P W' sp s.vars (s.fn H (ds++q)).vars [])
  (i:before=pa++[]) (E:W.keptBut W' (·∈before)) (y:∀ a:Addr,a.block < W.heap.size→W'.frozen? a=W.frozen? a)
  (z:∀ (j:Nat) (t:TypeId) (r:Value),f.resultTypes[j]? = Xa t→(v.resultList f.resultTypes.size)[j]? = Xa r→Value.okWide P W' .any 0 t r) :
  s.post enc P f c n d o W args v W':=by
 have u:∀ p∈before,p.block < W.heap.size:=fun p h=>x.lt p h;have l:∀ p∈before,(fun b=>decide (b < W.heap.size)) p.block=Xc:=fun p h=>decide_eq_true (u p h);refine ⟨ds,q,before,[],pa,[],x,k _ _ _,e _ l,g _ l,World.keptBut_mono (fun p h=>⟨h,?_⟩) E,fun _=>?_⟩
 ·refine Or.inr (Or.inl ?_)
  rwa [i,UG] at h
 ·have A:=x;obtain ⟨_,_,_,_,_,G,J⟩:=A;refine ⟨z,_,_,([]++pa)++[],⟨[]++pa,[],ChangeShapes.trodAll_append (e _ fun _ _=>rfl) (k _ _ _),g _ fun _ _=>rfl,rfl,?_,?_⟩,?_⟩
  ·intro b off h;have m:MemPlace.cell b off∈before:=by rw [i];simpa using h
   rw [y _ (u _ m)];exact G b off m
  ·intro L;have C:=J L;rw [i] at C;simpa using C
  ·intro p h _;rw [i];simpa using h
section
variable {P:Program} {H:Type} {enc:TypeId×Value→H} {w:World} {sp:Nat→Bool} {held:Bool}
def Zie:∀ (d n:Nat) (T:TypeId) (cs:List Value) (x:DataW H×List MemPlace),Zbl P d T=Xc→DataW.trod enc P w 0 sp held n T cs=Xa x→∃ g,TyR P d T g∧Ys w (Vn w) g cs
 | 0, n, T, cs, x, E, _ => by simp [Zbl] at E
 | d + 1, n, T, cs, x, E, h => by
  simp only [Zbl] at E;split at E
  ·rename_i k v;obtain ⟨z,rfl,_,hw⟩:=DataW.trod_int v h;refine ⟨[.val (.int k z)],?_,rfl,by simp [AV.isCell],fun i c u t r=>?_⟩
   ·simp only [TyR,v];exact ⟨z,rfl,hw⟩
   ·cases i with
    | zero => simp at t r; subst t; subst r; exact .val rfl
    | succ i => simp at t
  ·rename_i v;obtain ⟨b,rfl,_⟩:=DataW.trod_bool v h;refine ⟨[.val (.bool b)],?_,rfl,by simp [AV.isCell],fun i c u t r=>?_⟩
   ·simp only [TyR,v];exact ⟨b,rfl⟩
   ·cases i with
    | zero => simp at t r; subst t; subst r; exact .val rfl
    | succ i => simp at t
  ·rename_i v;obtain ⟨s,rfl,_⟩:=DataW.trod_string v h;refine ⟨[.val (.string s)],?_,rfl,by simp [AV.isCell],fun i c u t r=>?_⟩
   ·simp only [TyR,v];exact ⟨s,rfl⟩
   ·cases i with
    | zero => simp at t r; subst t; subst r; exact .val rfl
    | succ i => simp at t
  ·rename_i e v;simp only [Xk,P5] at E;rcases DataW.trod_slice v h with ⟨rfl,_⟩ | ⟨a,len,cap,WP,rest,m,_,rfl,_,_,hlc,hcm,hel,hcells,_,_⟩
   ·refine ⟨[.slice Xb (P.cellsOf e) []],?_,rfl,by simp [AV.isCell],fun i c u t r=>?_⟩
    ·simp only [TyR,v];exact ⟨[],rfl,by simp,by simp⟩
    ·cases i with
     | zero => simp at t r; subst t; subst r; exact .sliceN
     | succ i => simp at t
   ·obtain ⟨l,J,A⟩:=Wy (Q:=fun i (p:List Value×List AV)=>w.cells? 0 (a.add (i*P.cellsOf e)) (P.cellsOf e)=Xa p.1∧TyR P d e p.2∧Ys w (Vn w) p.2 p.1) len fun i G=>by
     have h1:=hcells i G;obtain ⟨y,hy⟩:∃ y,WP[i]? = Xa y:=⟨_,Xm (by omega)⟩;rw [hy,Option.bind_eq_some_iff] at h1;obtain ⟨us,h2,h3⟩:=h1;obtain ⟨g,h4,h5⟩:=Zie d m e us y E.1 h3;exact ⟨(us,g),h2,h4,h5⟩
    have L:∀ p∈l,TyR P d e p.2∧Ys w (Vn w) p.2 p.1∧p.1.length=P.cellsOf e:=by
     intro p hp;obtain ⟨i,G⟩:=X6.1 hp;obtain ⟨O,Y,g3⟩:=A i p G;exact ⟨Y,g3,(World.cells?_some O).2.1⟩
    refine ⟨[.slice Xb (P.cellsOf e) (l.map (·.2))],?_,rfl,by simp [AV.isCell],fun i c u t r=>?_⟩
    ·simp only [TyR,v];refine ⟨_,rfl,by simp;omega,fun y hy=>?_⟩;obtain ⟨p,hp,rfl⟩:=Xs.1 hy;exact (L p hp).1
    ·cases i with
     | succ i => simp at t
     | zero =>
      simp only [XM,Xf] at t r;subst t;subst r
      cases l with
      | nil =>
       have:len=0:=by simpa using J.symm
       subst this;exact .sliceE (fun h=>by cases h)
      | cons p l' =>
       have M:∀ (j:Nat) (u:Value),((p::l').map (·.1)).flatten[j]? = Xa u→w.cell? ⟨a.block,a.off+j,Xe⟩=Xa u:=by
        refine ZdC (s:=P.cellsOf e) (cell:=fun o=>w.cell? ⟨a.block,o,Xe⟩) _ a.off fun i us G=>?_;rw [Xp] at G
        cases hpi:(p::l')[i]? with
        | none => simp [hpi] at G
        | some q =>
         simp only [hpi,XA,Xf] at G;subst G;obtain ⟨O,_,_⟩:=A i q hpi;obtain ⟨_,k2,k3⟩:=World.cells?_some O;refine ⟨k2,fun k u r=>?_⟩;have ad:k < P.cellsOf e:=by rw [← k2];exact (Xx.1 r).1
         have:=k3 k ad;rw [r] at this
         have S:((a.add (i*P.cellsOf e)).add k).block=a.block∧((a.add (i*P.cellsOf e)).add k).off=a.off+i*P.cellsOf e+k:=by
          unfold Addr.add;split<;>split<;>simp_all
         have C:((a.add (i*P.cellsOf e)).add k).spot=Xe:=by
          unfold World.cell? at this;split at this
          ·split at this
           ·cases this
           ·rename_i hs;simpa using hs
          ·cases this
         have ae:(a.add (i*P.cellsOf e)).add k=⟨a.block,a.off+i*P.cellsOf e+k,Xe⟩:=by
          rw [← S.1,← S.2,← C]
         rw [ae] at this;exact this
       have C:a.spot=Xe:=by
        obtain ⟨O,_,_⟩:=A 0 p rfl;obtain ⟨_,k2,k3⟩:=World.cells?_some O;have:=k3 0 E.2;obtain ⟨u,r⟩:∃ u,p.1[0]? = Xa u:=⟨_,Xm (by rw [k2];exact E.2)⟩;rw [r] at this;have ha:(a.add (0*P.cellsOf e)).add 0=a:=by simp [Addr.add]
        rw [ha] at this;unfold World.cell? at this;split at this
        ·split at this
         ·cases this
         ·rename_i hs;simpa using hs
        ·cases this
       have ha:a=⟨a.block,a.off,Xe⟩:=by rw [← C]
       have D:((p::l').map (·.2)).length=len:=by rw [List.length_map];exact J
       rw [ha,← D]
       have U:Ys w (Vn w) ((p::l').map (·.2)).flatten ((p::l').map (·.1)).flatten:=by
        refine Ys.flat _ _ (by simp) fun i x us W Z=>?_;rw [Xp] at W Z
        cases hpi:(p::l')[i]? with
        | none => simp [hpi] at W
        | some q =>
         simp only [hpi,XA,Xf] at W Z;subst W;subst Z;exact (A i q hpi).2.2
       have ab:∀ x∈(p::l').map (·.2),x.length=P.cellsOf e:=by
        intro x W;obtain ⟨q,hq,rfl⟩:=Xs.1 W;obtain ⟨_,Y,g3⟩:=L q hq;rw [Y.1,g3]
       refine .sliceC (us:=((p::l').map (·.1)).flatten) ab (fun x W=>?_) (fun h=>by cases h) (by rw [D];exact hlc) (fun af=>?_) ?_ M U.2.2
       ·obtain ⟨q,hq,rfl⟩:=Xs.1 W;exact (L q hq).2.1.2.1
       ·have ah:0 < (((p::l').map (·.1)).flatten).length:=List.length_pos_iff.2 af;have aa:=M ((((p::l').map (·.1)).flatten).length-1) _ (Xm (by omega));have:=Zl9 aa;omega
       ·rw [← U.1,Zs _ _ ab]
  ·rename_i N v;simp only [Xk,P5,XE] at E;obtain ⟨⟨h1,h2⟩,h3⟩:=E;obtain ⟨xs,m,_,_,D,ai,R⟩:=DataW.trod_struct v h;obtain ⟨ps,q1,q2,q3⟩:=Zqc (N.toList.map fun f=>P.cellsOf f.type) cs (by rw [D,h2]);have ag:ps.length=N.size:=by rw [q1];simp
   obtain ⟨l,J,A⟩:=Wy (Q:=fun i (g:List AV)=>∃ (f:Field) (us:List Value),N[i]? = Xa f∧ps[i]? = Xa us∧TyR P d f.type g∧Ys w (Vn w) g us) N.size fun i G=>by
    have ac:N[i]? = Xa N[i]:=Array.getElem?_eq_getElem G;have hn:(N.toList.map fun f=>P.cellsOf f.type)[i]? = Xa (P.cellsOf N[i].type):=by simp [G]
    have h4:=q3 i _ hn;have h5:=R i _ ac;have X:=h3 (N[i],i) (by rw [List.mem_zipIdx_iff_getElem?];simp [G]);simp only at X;rw [X,List.map_take] at h5;obtain ⟨y,hy⟩:∃ y,xs[i]? = Xa y:=⟨_,Xm (by omega)⟩;rw [hy] at h5;obtain ⟨g,h6,h7⟩:=Zie d m _ _ y (h1 N[i] (by simp)) h5;exact ⟨g,N[i],_,ac,h4,h6,h7⟩
   refine ⟨l.flatten,?_,?_⟩
   ·simp only [TyR,v];refine ⟨l,rfl,J,fun i f p E hp=>?_⟩;obtain ⟨f',us,O,Y,g3,g4⟩:=A i p hp;rw [E] at O
    cases O
    exact g3
   ·rw [← q2];refine Ys.flat _ _ (by rw [J,ag]) fun i g us ha r=>?_;obtain ⟨f',aj,O,Y,g3,g4⟩:=A i g ha;rw [r] at Y
    cases Y
    exact g4
  ·cases E
def Zdi (P:Program) (d:Nat) (T:TypeId) (x:AV):Prop:=
 match P.underlying T with
 | some (.struct _) => ∃ cs, x = .agg cs ∧ TyR P d T cs
 | _ => x.isCell = Xc ∧ TyR P d T [x]
def ZoU {lim:Nat→Nat} {a:List AV} {v:Value} (h:Ys w lim a [v]):∃ x,a = [x]∧x.isCell=Xc∧Rep w lim x v:=by
 obtain ⟨x,rfl⟩:=List.length_eq_one_iff.1 (by simpa using h.1:a.length=1);exact ⟨x,rfl,h.2.1 x (by simp),h.2.2 0 x v rfl rfl⟩
def Zpl {d:Nat} {T:TypeId} {v:Value} {x:DataW H} {q:List MemPlace} {r:Reach} {base:Nat} (g:Zbl P d T=Xc) (b:Value.okWide P w r base T v)
  (h:DataW.Trod enc P w 0 sp held T v x q):∃ y,Zdi P d T y∧∀ X σ k,Z2 P w (Vn w) X σ k y v:=by
 obtain ⟨n,h⟩:=h;obtain ⟨f,o,i⟩:=Zie d n T _ _ g h
 cases d with
 | zero => simp [Zbl] at g
 | succ d =>
  have c:v.cells.toList = [v]→(∀ j,P.underlying T≠Xa (.struct j))→∃ y,Zdi P (d+1) T y∧∀ X σ k,Z2 P w (Vn w) X σ k y v:=by
   intro s l;rw [s] at i;obtain ⟨y,rfl,p,t⟩:=ZoU i;refine ⟨y,?_,fun X σ k=>(VV p t).2⟩;unfold Zdi;split
   ·rename_i j m;exact (l j m).elim
   ·exact ⟨p,o⟩
  simp only [Zbl] at g;split at g
  ·rename_i kd a;obtain ⟨z,u,_⟩:=DataW.trod_int a h;refine c ?_ (by rw [a];simp);simp only [Value.okWide,a,Cell.okWide] at b
   cases v<;>simp_all [Cell.ok,Value.cells]
  ·rename_i a;refine c ?_ (by rw [a];simp);simp only [Value.okWide,a,Cell.okWide] at b
   cases v<;>simp_all [Cell.ok,Value.cells]
  ·rename_i a;refine c ?_ (by rw [a];simp);simp only [Value.okWide,a,Cell.okWide] at b
   cases v<;>simp_all [Cell.ok,Value.cells]
  ·rename_i e a;refine c ?_ (by rw [a];simp);simp only [Value.okWide,a,Cell.okWide] at b
   cases v<;>simp_all [Cell.ok,Value.cells]
  ·rename_i j a;simp only [Value.okWide,a] at b;obtain ⟨cs,rfl,_,_⟩:=b;refine ⟨.agg f,?_,?_⟩
   ·unfold Zdi;simp only [a];exact ⟨f,rfl,o⟩
   ·have:cs=cs.toList.toArray:=by simp
    intro X σ k;show Rep w (Vn w) (.agg f) (.agg cs);rw [this];exact .agg i.1 i.2.1 i.2.2
  ·cases g
def ZfP {d:Nat} {r:Reach} {base:Nat} : ∀ (a:List TypeId) (vs:List Value) (ds:List (DataW H)) (e:List MemPlace),(∀ t∈a,Zbl P d t=Xc)→
  (∀ (j:Nat) (t:TypeId) (v:Value),a[j]? = Xa t→vs[j]? = Xa v→Value.okWide P w r base t v)→DataW.TrodAll enc P w 0 sp held a vs ds e→
  vs.length=a.length∧∃ xs:List AV,xs.length=a.length∧∀ (i:Nat) (t:TypeId) (x:AV) (v:Value),a[i]? = Xa t→xs[i]? = Xa x→vs[i]? = Xa v→Zdi P d t x∧∀ X σ k,Z2 P w (Vn w) X σ k x v
 | [], [], [], e, _, _, _ => ⟨rfl, [], rfl, by simp⟩
 | t :: a, v :: vs, x :: ds, e, hf, hok, h => by
  obtain ⟨p,q,m,n,_⟩:=h;obtain ⟨y,o,s⟩:=Zpl (hf t (by simp)) (hok 0 t v rfl rfl) m;obtain ⟨u,xs,z,A⟩:=ZfP a vs ds q (fun t b=>hf t (by simp [b])) (fun j f g b c=>hok (j+1) f g (by simpa using b) (by simpa using c)) n;refine ⟨by simp [u],y::xs,by simp [z],fun i f C g b l c=>?_⟩
  cases i with
  | zero =>
   simp only [XM,Xf] at b l c;subst b;subst l;subst c;exact ⟨o,s⟩
  | succ i => exact A i f C g (by simpa using b) (by simpa using l) (by simpa using c)
 | [], _ :: _, _, _, _, _, h => h.elim
 | [], [], _ :: _, _, _, _, h => h.elim
 | _ :: _, [], _, _, _, _, h => h.elim
 | _ :: _, _ :: _, [], _, _, _, h => h.elim
def ZgK {w':World} {b:Nat→Bool} (g:laidOutB P=Xc):∀ (c:List TypeId) (vs:List Value) (ds:List (DataW H)) (d:List MemPlace),(∀ t∈c,t < P.types.size∧P.readableRec t=Xc)→
  DataW.TrodAll enc P w 0 (fun _=>Xc) Xc c vs ds d→(∀ p∈d,w.sameAt w' p)→(∀ p∈d,b p.block=Xc)→DataW.TrodAll enc P w' 0 b Xc c vs ds d
 | [], [], [], _, _, h, _, _ => h
 | t :: c, v :: vs, x :: ds, d, ht, h, hs, hp => by
  obtain ⟨p,q,⟨n,k⟩,l,rfl⟩:=h;refine ⟨p,q,⟨n,?_⟩,ZgK g c vs ds q (fun i f=>ht i (by simp [f])) l (fun z a=>hs z (by simp [a])) (fun z a=>hp z (by simp [a])),rfl⟩;have j:=(ht t (by simp)).2;exact DataW.trod_stays (T:=InBook P t) (kids_book g j) (fun {i e} f m=>book_sized j f m) (fun h=>by cases h) ⟨(ht t (by simp)).1,book_self t⟩ k (fun z a=>hs z (by simp [a])) (fun z a=>hp z (by simp [a]))
 | [], _ :: _, _, _, _, h, _, _ => h.elim
 | [], [], _ :: _, _, _, h, _, _ => h.elim
 | _ :: _, [], _, _, _, h, _, _ => h.elim
 | _ :: _, _ :: _, [], _, _, h, _, _ => h.elim
def Zfe {k:Func} {f:FuncId} {s:ChangeSpec} {l E m G:Bool} {tb:TypeId} {d:Nat} (hl:laidOutB P=Xc) (A:∀ t∈k.params.toList,Zbl P d t=Xc∧t < P.types.size∧P.readableRec t=Xc)
  (C:k.resultTypes = #[tb]) (Q:P.underlying tb=Xa .bool) (n:s.vars = []) (hs:∀ ds,ds.length=k.params.size→s.fn H ds = { results:=[.lit (.bool Xc)],args:=ds })
  (J:∀ xs:List AV,xs.length=k.params.toList.length→(∀ (i:Nat) (t:TypeId) (x:AV),k.params.toList[i]? = Xa t→xs[i]? = Xa x→Zdi P d t x)→∃ outs,J2 P f xs (B Xc) outs)
  (W:World) (base:Nat) (args:Array Value) (ds gs:List (DataW H)) (before:List MemPlace)
  (R:∀ (j:Nat) t v,k.params[j]? = Xa t→args[j]? = Xa v→Value.okWide P W .any base t v) (hW:DataW.Whole enc P k.params.toList s.vars l W args.toList ds gs before) :
  Calls P f args W fun e W'=>∃ v,e = .returned v∧s.post enc P k l E m G W args v W':=by
 have S:=hW;obtain ⟨p,q,hA,hV,rfl,_,_⟩:=hW;rw [n] at hV;obtain ⟨rfl,rfl⟩:=ChangeShapes.trodVars_none hV;obtain ⟨D,xs,T,L⟩:=ZfP (r:=.any) (base:=base) _ _ _ _ (fun t g=>(A t g).1) (fun j t v g u=>R j t v (by simpa using g) (by simpa using u)) hA
 have M:ds.length=k.params.size:=by
  have:∀ (U:List TypeId) (vs:List Value) (ds:List (DataW H)) (ps:List MemPlace),DataW.TrodAll enc P W 0 (fun _=>Xc) Xc U vs ds ps→ds.length=U.length:=by
   intro U
   induction U with
   | nil => intro vs ds ps h; cases vs <;> cases ds <;> simp_all [DataW.TrodAll]
   | cons t U ih =>
    intro vs ds ps h
    cases vs with
    | nil => exact h.elim
    | cons v vs =>
     cases ds with
     | nil => exact h.elim
     | cons x ds => obtain ⟨_, _, _, X, _⟩ := h; simp [ih _ _ _ X]
  simpa using this _ _ _ _ hA
 obtain ⟨outs,_,hc⟩:=J xs T fun i t x g hx=>by
  obtain ⟨v,u⟩:∃ v,args.toList[i]? = Xa v:=⟨_,Xm (by rw [D];exact (Xx.1 g).1)⟩;exact (L i t x v g hx u).1
 have aa:xs.countP AV.isG=0:=by
  rw [List.countP_eq_zero];intro x hx hg;obtain ⟨i,Y⟩:=X6.1 hx;have N:=(Xx.1 Y).1;obtain ⟨v,u⟩:∃ v,args.toList[i]? = Xa v:=⟨_,Xm (by omega)⟩;obtain ⟨t,g⟩:∃ t,k.params.toList[i]? = Xa t:=⟨_,Xm (by omega)⟩;have hr:=(L i t x v g Y u).2 (fun _ _=>Xe) (fun _=>.dead) 0
  cases x<;>simp [AV.isG] at hg
  obtain ⟨v',b,_,_,h,_⟩:=hr
  cases h
 have c:=hc W (Vn W) (fun _ _=>Xe) args.toList (by rw [aa,D,T];exact Nat.le_refl _) (fun i=>by
  cases hxi:xs[i]? with
  | none =>
   have:Z5 xs i = .dead:=by simp [Z5,hxi]
   rw [this];trivial
  | some x =>
   have Y:=(Xx.1 hxi).1;obtain ⟨v,u⟩:∃ v,args.toList[i]? = Xa v:=⟨_,Xm (by omega)⟩;obtain ⟨t,g⟩:∃ t,k.params.toList[i]? = Xa t:=⟨_,Xm (by omega)⟩;have h1:Z5 xs i=x:=by simp [Z5,hxi]
   have X:args.toList.getD i undef=v:=by rw [List.getD_eq_getElem?_getD,u];rfl
   rw [h1,X];exact (L i t x v g hxi u).2 _ _ _) (fun _ _ _ _ _ h=>by cases h) (fun _ _ _ h=>by cases h)
 rw [Array.toArray_toList] at c;refine c.mono ?_;rintro e W' ⟨v,ac,X',rfl,y,ab,Z,_,_,_⟩
 have u:v = .bool Xc:=by
  have h:=Z xs.length
  have h1:Z5 (outs++[B Xc]) xs.length=B Xc:=by
   simp only [Z5];rw [XG (by omega),ab];simp
  have X:ZaO xs.length args.toList v xs.length=v:=P4 rfl;rw [h1,X] at h;exact VQ h
 subst u;have a:∀ b,b < W.heap.size→W'.heap[b]? = W.heap[b]?:=fun b hb=>(y.blk b hb (by rintro ⟨_,_,h⟩;cases h)).1
 have O:∀ z∈p++[],W.sameAt W' z:=by
  intro z hz;have N:=S.lt z hz
  cases z with
  | cell b off =>
   show W'.cell? ⟨b,off,Xe⟩=W.cell? ⟨b,off,Xe⟩;unfold World.cell?;rw [a b N]
  | map b => exact a b N
 refine ⟨_,rfl,Zkx (pa:=p) S (fun b sp hd=>?_) (fun sp hp=>?_) (fun sp _=>?_) rfl ?_ y.frz ?_⟩
 ·rw [hs _ (by simpa using M),C];exact ⟨[],[],⟨1,by simp [DataW.trod,Q,Value.cells]⟩,rfl,rfl⟩
 ·rw [hs _ (by simpa using M),UG];exact ZgK hl _ _ _ _ (fun t g=>(A t g).2) hA (fun z hz=>O z (by simpa using hz)) (fun z hz=>hp z (by simpa using hz))
 ·rw [hs _ (by simpa using M),n];rfl
 ·refine ⟨y.os,y.output,fun i Y=>?_⟩;rw [a i Y]
  cases W.heap[i]? with
  | none => rfl
  | some o => cases o <;> simp
 ·exact RowKit.ok_one C rfl (RowKit.okWide_bool_mk Q Xc)
end
open Go
def blank:Char:=Char.ofNat 32
def Zh5 (r:List Char):wordsSigns (blank::r) = []::wordsSigns r:=by
 show wordsSigns (Char.ofNat 32::r)=_;rw [wordsSigns]
def Zif (c:Char) (r:List Char) (h:c≠blank):wordsSigns (c::r)=match wordsSigns r with | w::ws=>(c::w)::ws | []=>[[c]]:=by
 rw [wordsSigns]
 ·rfl
 ·exact h
def V4 (r:List Char):∀ (w:List Char),(w.all fun c=>c != blank)=Xc→wordsSigns (w++blank::r)=w::wordsSigns r
 | [], _ => Zh5 r
 | c :: w, h => by
  rw [List.all_cons,Xk] at h;rw [List.cons_append,Zif c _ (by simpa using h.1),V4 r w h.2]
def ZfT {L:List Char} (h1:((L.take 7).all fun c=>c != blank)=Xc) (h2:(((L.drop 8).take 64).all fun c=>c != blank)=Xc) (h3:(((L.drop 73).take 3).all fun c=>c != blank)=Xc)
  (hL : L = L.take 7 ++ blank :: ((L.drop 8).take 64 ++ blank :: ((L.drop 73).take 3 ++ blank :: L.drop 77))) (hm : ((L.take 7 == "harness".toList || L.take 7 == "ownmain".toList) && isSumSigns ((L.drop 8).take 64)) = Xc)
  (hc : (L.drop 73).take 3 = "cut".toList) : ∃ ws, behindMainWord (wordsSigns L) = "cut".toList :: ws := by
 refine ⟨wordsSigns (L.drop 77),?_⟩
 have h:wordsSigns L=L.take 7::(L.drop 8).take 64::(L.drop 73).take 3::wordsSigns (L.drop 77):=by
  rw [hL,V4 _ _ h1,V4 _ _ h2,V4 _ _ h3,← hL]
 rw [h,behindMainWord,P4 hm,hc]
def enters_of {P : Program} {ws : List (List Char)} (h : behindMainWord (wordsSigns P.initOrder.toList) = "cut".toList :: ws) (h1 : P.laysLater = Xb) (h2 : P.bearsReflect = Xb) (h3 : P.doorFits [] = Xc) : P.mayEnter = Xc := by
 unfold Program.mayEnter;rw [h];have hs : stripLifts liftWords ("cut".toList :: ws) = ([], "cut".toList :: ws) := by kernel_rfl
 simp only [hs];simp [h1,h2,h3]
def lifts_of {P : Program} {ws : List (List Char)} (h : behindMainWord (wordsSigns P.initOrder.toList) = "cut".toList :: ws) : P.headLifts = [] := by
 unfold Program.headLifts;rw [h];have hs : stripLifts liftWords ("cut".toList :: ws) = ([], "cut".toList :: ws) := by kernel_rfl
 simp only [hs];simp
def final_of {P : Program} {ws : List (List Char)} (h : behindMainWord (wordsSigns P.initOrder.toList) = "cut".toList :: ws) : P.liftsFinal = Xb := by
 unfold Program.liftsFinal;rw [lifts_of h,h];have hs : ("cut".toList == "carried".toList) = Xb := by decide +kernel
 simp [hs]
def make_of {P : Program} {ws : List (List Char)} (h : behindMainWord (wordsSigns P.initOrder.toList) = "cut".toList :: ws) : P.make = Xa .cut := by
 unfold Program.make;rw [h];simp
end Go.AM
namespace Go.Proofs.YtnkmbgbpkgmbnaaGreat
open Go Go.AM
set_option maxRecDepth 100000
def behind : ∃ ws, behindMainWord (wordsSigns Tryz.prog.initOrder.toList) = "cut".toList :: ws := by
 have h:Tryz.prog.initOrder.toList=_:=String.toList_ofList (l:=_);rw [h];exact ZfT (by kernel_rfl) (by kernel_rfl) (by kernel_rfl) (by kernel_rfl) (by kernel_rfl) (by kernel_rfl)
def ZvD:Tryz.prog.mayEnter=Xc:=behind.elim fun _ h=>Go.AM.enters_of h (by kernel_rfl) (by kernel_rfl) (by kernel_rfl)
def ZzC:Tryz.prog.liftsFinal=Xb:=behind.elim fun _ h=>Go.AM.final_of h
def Zuh:Tryz.prog.make=Xa .cut:=behind.elim fun _ h=>Go.AM.make_of h
def ZBl:laidOutB Tryz.prog=Xc:=by kernel_rfl
def Zll:ownKnob Tryz.prog.godebug=Xe:=by kernel_rfl
def VL {d:Nat} {cs:List AV} (h:TyR Tryz.prog (d+1) 3 cs):∃ z,cs = [I z]:=by
 simp only [TyR,Tryz.underlying3] at h;obtain ⟨z,h,_⟩:=h;exact ⟨z,h⟩
def arg_int {x:AV} (h:Zdi Tryz.prog 12 3 x):∃ z,x=I z:=by
 simp only [Zdi,Tryz.underlying3] at h;obtain ⟨z,a⟩:=VL h.2;exact ⟨z,by simpa using a⟩
def Zhl (z:Int):List AV:=[I z]
def Ze (l:List Int):List (List AV):=l.map Zhl
structure Id where
 c:Int
 op:Int
 k:Int
 deriving DecidableEq
def idc (i:Id):List AV:=[I i.c,I i.op,I i.k]
def Zd (l:List Id):List (List AV):=l.map idc
def Zg6 {c e:Type} {f:c→e} {p:c→Prop} : ∀ (xs:List e),(∀ x∈xs,∃ a,x=f a∧p a)→∃ l:List c,xs=l.map f∧∀ a∈l,p a
 | [], _ => ⟨[], rfl, by simp⟩
 | x :: xs, h => by
  obtain ⟨a,g,i⟩:=h x (by simp);obtain ⟨l,j,k⟩:=Zg6 xs fun y m=>h y (by simp [m]);refine ⟨a::l,by rw [g,j];rfl,fun b d=>?_⟩;rcases List.mem_cons.1 d with rfl | d
  ·exact i
  ·exact k b d
def ZrX:List TypeId:=[3,4,22,23,25]
def ZzB (t:TypeId) (h:ZrX.contains t=Xc):Zbl Tryz.prog 12 t=Xc∧t < Tryz.prog.types.size∧Tryz.prog.readableRec t=Xc:=by
 have a:ZrX.all (fun t=>Zbl Tryz.prog 12 t&&decide (t < Tryz.prog.types.size)&&Tryz.prog.readableRec t)=Xc:=by kernel_rfl
 rw [XE] at a;have:=a t (by simpa using h);simpa [and_assoc] using this
end Go.Proofs.YtnkmbgbpkgmbnaaGreat
