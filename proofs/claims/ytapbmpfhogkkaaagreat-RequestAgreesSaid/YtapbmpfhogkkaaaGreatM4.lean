/- AmPlain, AmUse, AmRet, AmRun, AmRow, AmLift, AmSem, AmSize, AmIns: texts of the proof, put together. -/
import Derived.Test.YtapbmpfhogkkaaaGreatM3
import Derived.Laws.StructEq
import Derived.ChangeArms
import Derived.ChangeStays
import Derived.ChangeBook
import Derived.ChangeSame
import Derived.RowKit
import Derived.ChangeOld
import GoSem.ClaimJoined
import GoSem.ClaimOpenFrom
import Derived.KernelRfl
import Derived.SizedLaws
import Derived.WalkKit
import Derived.Lib.Walk
import Derived.Lib.SliceRun
import Derived.Lib.AppendZerosOnto
import Derived.Lib.Overlaps
import Derived.Laws.Externs
import Derived.Laws.IdiomCopy
import Derived.Shelf.RegionOpenPlain

section
namespace Go.AM
def ZjX (P:Program) (rec:TypeId→Bool) (e:Nat):List Field→Nat→Bool
 | [], _ => true
 | f :: fs, off => (f.name != "_") && (f.offset == off) &&
  (match P.underlying f.type with
   | some (.int _) => true
   | some .bool => true
   | some (.struct _) => rec f.type && (P.info? f.type).isSome
   | _ => false) &&
  (match YK P e f.type with | some l=>(P.cellsOf f.type == l.length)&&ZjX P rec e fs (off+l.length) | none=>false)
def ZgO (P:Program):Nat→TypeId→Bool
 | 0, _ => false
 | e + 1, T =>
  match P.underlying T with
  | some (.struct fs) => ZjX P (ZgO P e) e fs.toList 0 && !P.stoodInHeld T
  | _ => false
def Znp (P:Program) (T:TypeId):Bool:=ZgO P 8 T&&!P.eqGuardType P.depth T
theorem KO:∀ (L1 L2:List Sh) (us:List Value),Yk (L1++L2) us→Yk L1 (us.take L1.length)∧Yk L2 (us.drop L1.length)∧(us.take L1.length).length=L1.length
 | [], L2, us, h => ⟨by simp [Yk], by simpa using h, by simp⟩
 | s :: L1, L2, [], h => by cases s <;> exact h.elim
 | s :: L1, L2, u :: us, h => by
  cases s<;>cases u<;>try exact h.elim
  ·obtain ⟨h1,h2,h3⟩:=KO L1 L2 us h.2
   exact ⟨⟨h.1,h1⟩,h2,by simpa using h3⟩
  ·obtain ⟨h1,h2,h3⟩:=KO L1 L2 us h
   exact ⟨h1,h2,by simpa using h3⟩
theorem ZeF:∀ (L:List Sh) (a c b d:List Value),Yk L a→Yk L c→eqV (a++b) (c++d)=(eqV a c&&eqV b d)
 | [], [], [], b, d, _, _ => by simp [eqV]
 | [], _ :: _, _, _, _, h, _ => h.elim
 | [], [], _ :: _, _, _, _, h => h.elim
 | s :: L, [], _, _, _, h, _ => by cases s <;> exact h.elim
 | s :: L, _ :: _, [], _, _, _, h => by cases s <;> exact h.elim
 | s :: L, x :: a, y :: c, b, d, h, h' => by
  cases s<;>cases x<;>(try exact h.elim)<;>cases y<;>try exact h'.elim
  ·simp only [List.cons_append,eqV,ZeF L a c b d h.2 h'.2,Bool.and_assoc]
  ·simp only [List.cons_append,eqV,ZeF L a c b d h h',Bool.and_assoc]
section
variable {P:Program}
def Zkv (P:Program) (e k:Nat) (T:TypeId):Prop:=∀ (L:List Sh) (us vs:List Value) (w:World),YK P e T=some L→Yk L us→Yk L vs→
 (Op.equalIn (k+e) T (.agg us.toArray) (.agg vs.toArray)).run P w = .ok (eqV us vs) w
theorem Za4 (e k:Nat) (rec:TypeId→Bool) (hrec:∀ T,rec T=true→Zkv P e k T) (w:World) (us vs:List Value):∀ (fs:List Field) (n:Nat) (L:List Sh),ZjX P rec e fs n=true→
  fs.foldr (fun f acc=>match YK P e f.type,acc with | some a,some b=>some (a++b) | _,_=>none) (some [])=some L→Yk L (us.drop n)→Yk L (vs.drop n)→
  (Op.eqFields (k+e) us.toArray vs.toArray fs).run P w = .ok (eqV (us.drop n) (vs.drop n)) w
 | [], n, L, _, hL, hu, hv => by
  simp only [List.foldr_nil,Option.some.injEq] at hL
  subst hL
  cases h:us.drop n with
  | nil => simp [Op.eqFields, eqV]
  | cons x l => rw [h] at hu; exact hu.elim
 | f :: fs, n, L, hf, hL, hu, hv => by
  simp only [ZjX,Bool.and_eq_true,bne_iff_ne,ne_eq,beq_iff_eq] at hf
  obtain ⟨⟨⟨hname,hoff⟩,hty⟩,hrest⟩:=hf
  simp only [List.foldr_cons] at hL
  split at hL
  case h_2=>cases hL
  rename_i a L' ha hL'
  simp only [Option.some.injEq] at hL
  subst hL
  rw [ha] at hrest
  simp only [Bool.and_eq_true,beq_iff_eq] at hrest
  obtain ⟨hcells,hrest⟩:=hrest
  obtain ⟨u1,u2,u3⟩:=KO a L' _ hu
  obtain ⟨v1,v2,v3⟩:=KO a L' _ hv
  rw [List.drop_drop] at u2 v2
  have ih:=Za4 e k rec hrec w us vs fs (n+a.length) L' hrest hL' u2 v2
  have hus:us.drop n=(us.drop n).take a.length++us.drop (n+a.length):=by
   rw [← List.drop_drop,List.take_append_drop]
  have hvs:vs.drop n=(vs.drop n).take a.length++vs.drop (n+a.length):=by
   rw [← List.drop_drop,List.take_append_drop]
  have hev:eqV (us.drop n) (vs.drop n)=(eqV ((us.drop n).take a.length) ((vs.drop n).take a.length)&&eqV (us.drop (n+a.length)) (vs.drop (n+a.length))):=by
   rw [hus,hvs]
   have:=ZeF a ((us.drop n).take a.length) ((vs.drop n).take a.length) (us.drop (n+a.length)) (vs.drop (n+a.length)) u1 v1
   rw [← hus,← hvs] at this ⊢
   exact this
  rw [hev]
  -- the field's value
  suffices hx:∃ x y,(part f.type us.toArray f.offset).run P w = .ok x w∧(part f.type vs.toArray f.offset).run P w = .ok y w∧(Op.equalIn (k+e) f.type x y).run P w = .ok (eqV ((us.drop n).take a.length) ((vs.drop n).take a.length)) w by
   obtain ⟨x,y,p1,p2,p3⟩:=hx
   simp only [Op.eqFields,hname,ne_eq,not_false_eq_true,if_true,Sem.run_bind,p1,p2,p3,Result.andThen_ok,Sem.run_ite]
   cases h:eqV ((us.drop n).take a.length) ((vs.drop n).take a.length)
   ·simp
   ·simpa using ih
  have he:∃ e',e=e'+1:=by
   cases e with
   | zero => simp [YK] at ha
   | succ e' => exact ⟨e', rfl⟩
  obtain ⟨e',rfl⟩:=he
  have one:∀ (l:List Value),((l.drop n).take 1).length=1→∃ x,(l.drop n).take 1 = [x]∧l[n]? = some x:=by
   intro l hl
   cases h:l.drop n with
   | nil => rw [h] at hl; simp at hl
   | cons x r =>
    refine ⟨x,rfl,?_⟩
    have:=congrArg (fun l=>l[0]?) h
    simpa using this
  split at hty
  ·rename_i kk hk
   have ha':a = [.int kk]:=by
    simp only [YK,hk,Option.some.injEq] at ha
    exact ha.symm
   subst ha'
   obtain ⟨x,x1,x2⟩:=one us u3
   obtain ⟨y,y1,y2⟩:=one vs v3
   simp only [List.length_cons,List.length_nil,Nat.zero_add] at u1 v1 ⊢
   rw [x1] at u1 ⊢
   rw [y1] at v1 ⊢
   cases x<;>try exact u1.elim
   cases y<;>try exact v1.elim
   obtain ⟨rfl,_⟩:=u1
   obtain ⟨rfl,_⟩:=v1
   have p1:∀ (l:List Value) (x:Value),l[n]? = some x→(part f.type l.toArray f.offset).run P w = .ok x w:=by
    intro l x h
    rw [hoff]
    have:l.toArray[n]? = some x:=by simpa using h
    simp [part,isAgg,run_underlying hk,this]
   refine ⟨_,_,p1 us _ x2,p1 vs _ y2,?_⟩
   rw [show k+(e'+1)=(k+e')+1 from rfl,run_equalIn_int w (k+e') f.type _ _ _ _ hk]
   simp [eqV]
  ·rename_i hk
   have ha':a = [.bool]:=by
    simp only [YK,hk,Option.some.injEq] at ha
    exact ha.symm
   subst ha'
   obtain ⟨x,x1,x2⟩:=one us u3
   obtain ⟨y,y1,y2⟩:=one vs v3
   simp only [List.length_cons,List.length_nil,Nat.zero_add] at u1 v1 ⊢
   rw [x1] at u1 ⊢
   rw [y1] at v1 ⊢
   cases x<;>try exact u1.elim
   cases y<;>try exact v1.elim
   have p1:∀ (l:List Value) (x:Value),l[n]? = some x→(part f.type l.toArray f.offset).run P w = .ok x w:=by
    intro l x h
    rw [hoff]
    have:l.toArray[n]? = some x:=by simpa using h
    simp [part,isAgg,run_underlying hk,this]
   refine ⟨_,_,p1 us _ x2,p1 vs _ y2,?_⟩
   rw [show k+(e'+1)=(k+e')+1 from rfl,run_equalIn_bool' w (k+e') f.type _ _ hk]
   simp [eqV]
  ·rename_i gs hk
   rw [Bool.and_eq_true] at hty
   obtain ⟨inf,hinf⟩:=Option.isSome_iff_exists.1 hty.2
   have hsz:P.cellsOf f.type=inf.size:=Z9 hinf
   have p1:∀ (l:List Value),(part f.type l.toArray f.offset).run P w = .ok (.agg ((l.drop n).take a.length).toArray) w:=by
    intro l
    rw [hoff]
    have hag:(isAgg f.type).run P w = .ok true w:=by simp [isAgg,run_underlying hk]
    have:l.toArray.extract n (n+inf.size)=((l.drop n).take a.length).toArray:=by
     apply Array.toList_inj.1
     rw [Array.toList_extract]
     simp [List.extract_eq_take_drop,← hcells,hsz]
    rw [← hsz,hcells] at this
    simp [part,hag,Zu hinf,← hsz,hcells]
   exact ⟨_,_,p1 us,p1 vs,hrec f.type hty.1 a _ _ w ha u1 v1⟩
  ·cases hty
theorem Zhy:∀ (e k:Nat) (T:TypeId),ZgO P e T=true→Zkv P e k T
 | 0, _, _, h => by simp [ZgO] at h
 | e + 1, k, T, h => by
  intro L us vs w hL hu hv
  unfold ZgO at h
  split at h
  ·rename_i fs hfs
   simp only [Bool.and_eq_true,Bool.not_eq_true'] at h
   have hfo:P.fieldsOf T=fs:=by simp only [Program.fieldsOf,hfs]
   rw [show k+(e+1)=(k+e)+1 from rfl,run_equalIn_struct w (k+e) T _ _ (by rw [hfo];exact hfs) h.2,hfo]
   have:=Za4 e k (ZgO P e) (fun T' h'=>Zhy e k T' h') w us vs fs.toList 0 L h.1 (by
    rw [YK] at hL
    simp only [hfs] at hL
    exact hL) (by simpa using hu) (by simpa using hv)
   simpa using this
  ·cases h
theorem ZjA {plain:List TypeId} (h:plain.all (Znp P)=true):PlainSound P plain:=by
 intro T hT
 rw [List.all_eq_true] at h
 have hf:=h T hT
 unfold Znp at hf
 simp only [Bool.and_eq_true,Bool.not_eq_true'] at hf
 exact ⟨hf.2,fun L hL us vs hu hv w=>Zhy 8 9992 T hf.1 L us vs w hL hu hv⟩
end
end Go.AM
end

section
namespace Go.AM
def Zon (l:List V):Nat→V:=fun n=>(l[n]?).getD (.i 0)
abbrev I (z:Int):AV:=.val (.int .i64 z)
abbrev B (b:Bool):AV:=.val (.bool b)
theorem Wk {z:Int} (h1 : -(2^63:Int)≤z) (h2:z < 2^63):IntKind.i64.wrap z=z:=by
 have e:(2:Int)^63=9223372036854775808:=by decide
 rw [e] at h1 h2
 simp only [IntKind.wrap]
 have:IntKind.i64.signed=true:=rfl
 simp [this,IntKind.bits]
 omega
theorem W4 {z:Int} (h1:0≤z) (h2:z < 2^64):IntKind.u64.wrap z=z:=by
 have e:(2:Int)^64=18446744073709551616:=by decide
 rw [e] at h2
 simp only [IntKind.wrap]
 have:IntKind.u64.signed=false:=rfl
 simp [this,IntKind.bits]
 omega
theorem J5 {a b:Int} (h1 : -(2^63:Int)≤a+b) (h2:a+b < 2^63):iop .add .i64 a b=a+b:=Wk h1 h2
theorem ZdI {a b:Int} (h1 : -(2^63:Int)≤a-b) (h2:a-b < 2^63):iop .sub .i64 a b=a-b:=Wk h1 h2
theorem Zlb {a b:Int} (h1 : -(2^63:Int)≤a*b) (h2:a*b < 2^63):iop .mul .i64 a b=a*b:=Wk h1 h2
theorem Zmz {b:Int} (h2:b≤62):iop .shl .i64 1 b=2^b.toNat:=by
 have hb:b.toNat≤62:=by omega
 have hle:(2:Int)^b.toNat≤2^62:=by
  have:=Nat.pow_le_pow_right (n:=2) (by omega) hb
  exact_mod_cast this
 have hpos:(0:Int) < 2^b.toNat:=by
  have:=Nat.pow_pos (n:=b.toNat) (show 0 < 2 by omega)
  exact_mod_cast this
 have e62:(2:Int)^62=4611686018427387904:=by decide
 have e63:(2:Int)^63=9223372036854775808:=by decide
 have hmin:min b.toNat IntKind.i64.bits=b.toNat:=by
  have:IntKind.i64.bits=64:=rfl
  omega
 simp only [iop,hmin,Int.one_mul]
 rw [Wk (by omega) (by omega)]
theorem Yv (n:Nat):(0:Int) < 2^n:=by
 have:=Nat.pow_pos (n:=n) (show 0 < 2 by omega)
 exact_mod_cast this
theorem Zhm {m n:Nat} (h:m≤n):(2:Int)^m≤2^n:=by
 have:=Nat.pow_le_pow_right (n:=2) (by omega) h
 exact_mod_cast this
theorem ZG (a b:Int):(cop .lss a b=true)=(a < b):=by simp [cop]
theorem ZN (a b:Int):(cop .lss a b=false)=(b≤a):=by simp [cop]
theorem ZO (a b:Int):(cop .leq a b=true)=(a≤b):=by simp [cop]
theorem ZL (a b:Int):(cop .leq a b=false)=(b < a):=by simp [cop]
theorem ZF (a b:Int):(cop .gtr a b=true)=(b < a):=by simp [cop]
theorem ZQ (a b:Int):(cop .gtr a b=false)=(a≤b):=by simp [cop]
theorem ZM (a b:Int):(cop .geq a b=true)=(b≤a):=by simp [cop]
theorem ZH (a b:Int):(cop .geq a b=false)=(a < b):=by simp [cop]
theorem ZJ (a b:Int):(cop .eql a b=true)=(a=b):=by simp [cop]
theorem ZI (a b:Int):(cop .eql a b=false)=(a≠b):=by simp [cop]
theorem ZK (a b:Int):(cop .neq a b=true)=(a≠b):=by simp [cop]
theorem ZP (a b:Int):(cop .neq a b=false)=(a=b):=by simp [cop]
theorem Z6 (x y:Bool):(x=y)=(x=true↔y=true):=by cases x<;>cases y<;>simp
end Go.AM
end

section
namespace Go.AM
section
variable {P:Program} {E:Env}
theorem callOk_ofR {R : AV → List AV → Prop} (hm : P.follows .mixedOrders = true) (hps : PlainSound P E.plain) {f : FuncId} {fn : Func} (hf : P.funcs[f]? = some fn) (hname : (fn.name == "runtime.NumGoroutine") = false) {args : List SV} {n : Nat} {ρ : Nat → V}
  (hargs:∀ a∈args,a.bd n) {res:AV} {outs:List AV} (hR:∀ r os,R r os→Va P (os++[r]) (outs++[res])) (h:(Zoy P E fn args n).wp P R (fun _ _=>False) ρ):JE P f (args.map (SV.den ρ)) res outs:=by
 unfold Zoy at h
 split at h
 case h_2=>exact h.elim
 rename_i code hbody
 dsimp only at h
 split at h
 case isFalse=>exact h.elim
 rename_i hh
 obtain ⟨hnt,hnm,hal,hng,haf⟩:=hh
 have hat:=Vv args 0 haf
 refine ⟨⟨fn,hf,hname,by rw [hbody];rfl⟩,?_⟩
 intro w lim X cargs hcl hrel hdist hsize
 rw [List.length_map] at hcl
 have hgl:∀ (aZ:List SV) (i:Nat),Jo E aZ i=true→i+aZ.length≤E.nt+((aZ.map (SV.den ρ)).countP AV.isG)∨aZ.length≤(aZ.map (SV.den ρ)).countP AV.isG:=by
  intro aZ
  induction aZ with
  | nil => intro i _; exact .inr (Nat.zero_le _)
  | cons a aZ ih =>
   intro i hf
   have h0:=Vv (a::aZ) i hf 0 a rfl
   have hd:(a.den ρ).isG=a.isG:=by cases a<;>first | rfl | (rename_i x;cases x<;>rfl)
   rw [List.map_cons,List.countP_cons,hd,List.length_cons]
   by_cases hg:a.isG=true
   ·rw [if_pos hg]
    rcases ih (i+1) (Kb hf) with h1 | h1
    ·left;omega
    ·right;omega
   ·rw [if_neg hg]
    have h2:i < E.nt:=by
     rcases Nat.lt_or_ge i E.nt with h | h
     ·exact h
     ·exact (hg (h0.2.2 (by simpa using h))).elim
    rcases ih (i+1) (Kb hf) with h1 | h1
    ·left;omega
    ·left;omega
 have hcn:cargs.length≤E.nt:=by
  rcases hgl args 0 haf with h1 | h1<;>omega
 have hcd:∀ d,d < args.length→(∃ a,args[d]? = some a):=fun d hd=>⟨_,List.getElem?_eq_getElem hd⟩
 refine calls_of_wp hf hbody ?_
 let c:Ctx:=⟨P,w,lim,fun b=>∃ i k,X i k=some b,E.nt,fun d=>match args[d]? with | some (.box _)=>some (cargs.getD d undef) | _=>none,fun d=>match args[d]? with | some (.gbox _)=>X d 0 | _=>none⟩
 have hlow:Vn E (Kw args 0):=by
  unfold Vn
  rw [List.all_eq_true]
  intro u hu
  have:=ZbL args 0 E.top (by omega) u hu
  simpa using this
 have hσ:Jb E (Ju (Kw args 0) (.leaf .dead)) ρ=Z0 (args.map (SV.den ρ)):=by
  rw [Ya hnt ρ _ _ hlow]
  funext d
  rw [Zbo,Nat.zero_add,Nat.sub_zero]
  split
  ·rfl
  ·rename_i hd
   have h1:Jb E (.leaf .dead) ρ d = .dead:=by
    simp only [Jb,gE]
    split<;>rfl
   have h2:(args.map (SV.den ρ))[d]? = none:=List.getElem?_eq_none (by rw [List.length_map];omega)
   rw [h1]
   simp only [Z0,h2]
   rfl
 have htm:∀ d,(cargs.toArray++Array.replicate (fn.ntmps-cargs.toArray.size) undef).getD d undef=cargs.getD d undef:=by
  intro d
  rw [List.getD_eq_getElem?_getD,Array.getD_eq_getD_getElem?,Array.getElem?_append]
  simp only [List.size_toArray,List.getElem?_toArray]
  split
  ·rfl
  ·rename_i h1
   rw [List.getElem?_eq_none (by omega),Array.getElem?_replicate]
   split<;>rfl
 have hpin:∀ d v,c.pin d=some v→(∃ cs,args[d]? = some (.box cs))∧v=cargs.getD d undef:=by
  intro d v hv
  have hv':(match args[d]? with | some (.box _)=>some (cargs.getD d undef) | _=>none)=some v:=hv
  split at hv'
  ·rename_i cs hcs
   simp only [Option.some.injEq] at hv'
   exact ⟨⟨cs,hcs⟩,hv'.symm⟩
  ·cases hv'
 have hsim:Sim c (Jb E (Ju (Kw args 0) (.leaf .dead)) ρ) (cargs.toArray++Array.replicate (fn.ntmps-cargs.toArray.size) undef) w lim X:=by
  rw [hσ]
  have hG:∀ d,(Z0 (args.map (SV.den ρ)) d).isG=true↔∃ cs,args[d]? = some (.gbox cs):=by
   intro d
   cases ha:args[d]? with
   | none =>
    have h2:(args.map (SV.den ρ))[d]? = none:=by rw [List.getElem?_map,ha];rfl
    simp only [Z0,h2]
    exact ⟨fun h=>(by cases h),fun ⟨_,h⟩=>(by cases h)⟩
   | some a =>
    have h2:Z0 (args.map (SV.den ρ)) d=a.den ρ:=by simp only [Z0,List.getElem?_map,ha];rfl
    rw [h2]
    cases a with
    | gbox cs => exact ⟨fun _ => ⟨cs, rfl⟩, fun _ => rfl⟩
    | c x => exact ⟨fun h => (by cases x <;> cases h), fun ⟨_, h⟩ => (by cases h)⟩
    | _ => exact ⟨fun h => (by cases h), fun ⟨_, h⟩ => (by cases h)⟩
  refine ⟨fun d=>by rw [htm d];exact hrel d,?_,fun d hd=>?_,fun d hd=>?_,hdist,fun d k b hb=>⟨hsize d k b hb,.inl ⟨d,k,hb⟩⟩,⟨rfl,rfl,rfl,Nat.le_refl _,fun _ _=>rfl,fun _ _ _=>⟨rfl,rfl⟩,Ext.refl w lim⟩,fun d v hv=>?_,fun d b hb=>?_⟩
  ·show _=E.nt
   simp
   omega
  ·cases ha:args[d]? with
   | none =>
    left
    have h2:(args.map (SV.den ρ))[d]? = none:=by rw [List.getElem?_map,ha];rfl
    simp only [Z0,h2]
    rfl
   | some a =>
    right
    have h3:=(hat d a ha).2.2 (by rw [Nat.zero_add];exact hd)
    refine (hG d).2 ?_
    cases a<;>simp [SV.isG] at h3
    exact ⟨_,ha⟩
  ·obtain ⟨cs,hcs⟩:=(hG d).1 hd
   have:=(hat d _ hcs).2.1 rfl
   rwa [Nat.zero_add] at this
  ·obtain ⟨⟨cs,hcs⟩,rfl⟩:=hpin d v hv
   refine ⟨htm d,cs.map (BC.den ρ),?_⟩
   simp only [Z0,List.getElem?_map,hcs]
   rfl
  ·have hb':(match args[d]? with | some (.gbox _)=>X d 0 | _=>none)=some b:=hb
   split at hb'
   ·rename_i cs hcs
    exact ⟨hb',(hG d).2 ⟨cs,hcs⟩⟩
   ·cases hb'
 have hfin:∀ s' n' ρ' (A':Nat→List V→Prop),Ku E s' n'→((match ZhG (gE E s') args fn.results.toList with
   | some (_, cs) => .ret (.box cs) (K0 (gE E s') args 0)
   | none =>
   match ZjI P (gE E s') fn.results.toList with
   | some r => if Zcm args fn.results.toList = true then STree.ret r (K0 (gE E s') args 0) else .stuck 124
   | none => .stuck 120) : STree).wp P R A' ρ' → ∀ tm' w' lim' X', Sim c (Jb E s' ρ') tm' w' lim' X' → ∃ v, (results fn tm').run P w' = .ok v w' ∧
    ∃ v1 lim1 X1,Ending.returned v = .returned v1∧Jf w lim w' lim1 (fun b=>∃ i k,X i k=some b)∧outs.length=(args.map (SV.den ρ)).length∧
     (∀ i,ZV P w' lim1 X1 (Z0 (outs++[res])) i (Z0 (outs++[res]) i) (Wd (args.map (SV.den ρ)).length cargs v1 i))∧Zho X1∧
     (∀ i k b,X1 i k=some b→b < w'.heap.size∧((∃ i k,X i k=some b)∨w.heap.size≤b))∧∀ i,(Z0 (outs++[res]) i).isG=true→(Z0 (args.map (SV.den ρ)) i).isG=true∧X1 i 0=X i 0:=by
  intro s' n' ρ' A' _ h' tm' w' lim' X' hsim'
  obtain ⟨r,SRC,hA,hB,hval,hG0,h'⟩:∃ (r:SV) (SRC:Nat→Nat→Option (Nat×Nat)),(∀ i,i < args.length→∀ k,SRC i k=if (args[i]?).map SV.isBx=some true then some (i,k) else none)∧
    (∀ i k i' k' p,SRC i k=some p→SRC i' k'=some p→i=i'∧k=k')∧
    (∃ v,(results fn tm').run P w' = .ok v w'∧ZV P w' lim' (fun i k=>(SRC i k).bind fun p=>X' p.1 p.2) (Z0 ((K0 (gE E s') args 0).map (SV.den ρ')++[r.den ρ'])) args.length (r.den ρ') v)∧
    (r.den ρ').isG=false∧(STree.ret r (K0 (gE E s') args 0)).wp P R A' ρ':=by
   split at h'
   ·rename_i d0 cs hbr
    unfold ZhG at hbr
    split at hbr
    case h_2=>cases hbr
    rename_i t hrs
    split at hbr
    case h_2=>cases hbr
    rename_i d1 hgt
    split at hbr
    case h_2=>cases hbr
    rename_i cs1 hgd
    split at hbr
    case isFalse=>cases hbr
    rename_i hna
    simp only [Option.some.injEq,Prod.mk.injEq] at hbr
    obtain ⟨rfl,rfl⟩:=hbr
    have hnb:∀ a,args[d1]? = some a→a.isBx=true→False:=by
     intro a ha hax
     rw [ha] at hna
     cases a<;>simp [SV.isBx] at hax<;>cases hna
    refine ⟨.box cs1,fun i k=>if i < args.length then (if (args[i]?).map SV.isBx=some true then some (i,k) else none) else if i=args.length then some (d1,k) else none,fun i hi k=>if_pos hi,?_,?_,rfl,h'⟩
    ·intro i k i' k' p h1 h2
     dsimp only at h1 h2
     split at h1
     ·split at h1
      ·rename_i hi hb
       simp only [Option.some.injEq] at h1
       subst h1
       obtain ⟨a,ha,hax⟩:=Option.map_eq_some_iff.1 hb
       split at h2
       ·split at h2
        ·simp only [Option.some.injEq,Prod.mk.injEq] at h2;exact ⟨h2.1.symm,h2.2.symm⟩
        ·cases h2
       ·split at h2
        ·simp only [Option.some.injEq,Prod.mk.injEq] at h2
         exact (hnb a (by rw [h2.1];exact ha) hax).elim
        ·cases h2
      ·cases h1
     ·split at h1
      ·rename_i hi
       simp only [Option.some.injEq] at h1
       subst h1
       split at h2
       ·split at h2
        ·rename_i hi' hb
         simp only [Option.some.injEq,Prod.mk.injEq] at h2
         obtain ⟨a,ha,hax⟩:=Option.map_eq_some_iff.1 hb
         exact (hnb a (by rw [← h2.1];exact ha) hax).elim
        ·cases h2
       ·split at h2
        ·rename_i hi'
         simp only [Option.some.injEq,Prod.mk.injEq] at h2
         exact ⟨by rw [hi,hi'],h2.2.symm⟩
        ·cases h2
      ·cases h1
    ·have ht:=hsim'.rel t
     have hd:=hsim'.rel d1
     have e1:Jb E s' ρ' t = .ptr d1 0:=by simp only [Jb,hgt];rfl
     have e2:Jb E s' ρ' d1 = .box (cs1.map (BC.den ρ')):=by simp only [Jb,hgd];rfl
     rw [e1] at ht
     rw [e2] at hd
     obtain ⟨b,cs',hb,_,hv⟩:=ht
     have hp:ZB P w' lim' (X' d1) (cs1.map (BC.den ρ')) (tm'.getD d1 undef):=hd
     obtain ⟨b',hb',hv'⟩:=Yx hp
     rw [hb] at hb'
     simp only [Option.some.injEq] at hb'
     subst hb'
     refine ⟨tm'.getD t undef,?_,?_⟩
     ·exact Vq (vs:=[tm'.getD t undef]) (by rw [hrs];rfl) fun i r' v' hr' hv2=>by
       rw [hrs] at hr'
       cases i with
       | zero =>
        simp only [List.getElem?_cons_zero,Option.some.injEq] at hr' hv2
        subst hr'
        subst hv2
        rfl
       | succ i => simp at hr'
     ·show ZB P w' lim' (fun k=>((if args.length < args.length then (if (args[args.length]?).map SV.isBx=some true then some (args.length,k) else none) else if args.length=args.length then some (d1,k) else none:Option (Nat×Nat)).bind fun p=>X' p.1 p.2)) (cs1.map (BC.den ρ')) (tm'.getD t undef)
      have e3:(fun k=>((if args.length < args.length then (if (args[args.length]?).map SV.isBx=some true then some (args.length,k) else none) else if args.length=args.length then some (d1,k) else none:Option (Nat×Nat)).bind fun p=>X' p.1 p.2))=X' d1:=by
       funext k
       rw [if_neg (Nat.lt_irrefl _),if_pos rfl];rfl
      rw [e3,hv,← hv']
      exact hp
   ·split at h'
    case h_2=>exact h'.elim
    rename_i r hr
    split at h'
    case isFalse=>exact h'.elim
    rename_i hfine
    refine ⟨r,Zga args fn.results.toList,fun i hi k=>?_,fun i k i' k' p h1 h2=>Zjk hfine h1 h2,?_,?_,h'⟩
    ·unfold Zga;rw [if_pos hi]
    ·generalize (K0 (gE E s') args 0).map (SV.den ρ')=outs0
     have hrow:∀ k,Zga args fn.results.toList args.length k=match fn.results.toList with
       | [r] => if k = 0 then some (JZ r, Zdc r) else none
       | rs => match k with | 0 => none | k + 1 => (rs[k]?).map fun r => (JZ r, Zdc r) := by
      intro k
      unfold Zga
      rw [if_neg (Nat.lt_irrefl _),if_pos rfl]
      all_goals rfl
     unfold ZjI at hr
     split at hr
     ·rename_i r0 hrs
      cases hx:ZbT P (gE E s') r0 with
      | none => simp [hx] at hr
      | some x =>
       simp only [hx,Option.map_some,Option.some.injEq] at hr
       subst hr
       rw [Zcd]
       obtain ⟨v,h1,h2⟩:=Zd2 (c:=c) rfl hsim' hx
       refine ⟨v,?_,Zem ?_⟩
       ·exact Vq (vs:=[v]) (by rw [hrs];rfl) fun i r' v' hr' hv'=>by
         rw [hrs] at hr'
         cases i with
         | zero =>
          simp only [List.getElem?_cons_zero,Option.some.injEq] at hr' hv'
          subst hr'
          subst hv'
          exact h1
         | succ i => simp at hr'
       ·show JX P w' lim' ((Zga args fn.results.toList args.length 0).bind fun p=>X' p.1 p.2) _ v
        rw [hrow,hrs]
        exact h2
     ·rename_i hne
      cases hx:Zbm P (gE E s') fn.results.toList with
      | none => simp [hx] at hr
      | some xs =>
       simp only [hx,Option.map_some,Option.some.injEq] at hr
       subst hr
       obtain ⟨vs,g1,g2,g3⟩:=Zdh (c:=c) rfl hsim' _ _ hx
       have hne1:∀ v,vs≠[v]:=by
        intro v hv
        rw [hv] at g1
        obtain ⟨r',hr'⟩:=List.length_eq_one_iff.1 g1
        exact hne r' hr'
       refine ⟨.tuple vs.toArray,?_,?_⟩
       ·have:=Vq g1 fun i r' v' hr' hv'=>(g3 i r' v' hr' hv').1
        rw [this]
        rcases vs with _ | ⟨v,_ | ⟨u,l⟩⟩
        ·rfl
        ·exact (hne1 v rfl).elim
        ·rfl
       ·refine ⟨vs,rfl,by simp [g2],fun i y u hy hu=>?_⟩
        rw [List.getElem?_map] at hy
        cases hxi:xs[i]? with
        | none => simp [hxi] at hy
        | some x =>
         simp only [hxi,Option.map_some,Option.some.injEq] at hy
         subst hy
         obtain ⟨r',hr'⟩:∃ r',fn.results.toList[i]? = some r':=⟨_,List.getElem?_eq_getElem (by rw [g1];exact (List.getElem?_eq_some_iff.1 hu).1)⟩
         have h3:=(g3 i r' u hr' hu).2 x hxi
         have hsrc:Zga args fn.results.toList args.length (i+1)=some (JZ r',Zdc r'):=by
          rw [hrow]
          split
          ·rename_i r1 hr1;exact (hne r1 hr1).elim
          ·simp [hr']
         show JX P w' lim' ((Zga args fn.results.toList args.length (i+1)).bind fun p=>X' p.1 p.2) _ u
         rw [hsrc]
         exact h3
    ·unfold ZjI at hr
     split at hr
     ·obtain ⟨x,_,rfl⟩:=Option.map_eq_some_iff.1 hr
      rw [Zcd]
      cases x with
      | c y => cases y <;> rfl
      | _ => rfl
     ·obtain ⟨x,_,rfl⟩:=Option.map_eq_some_iff.1 hr
      rfl
  obtain ⟨res0,hres⟩:∃ y,SV.den ρ' r=y:=⟨_,rfl⟩
  obtain ⟨outs0,houts⟩:∃ y,(K0 (gE E s') args 0).map (SV.den ρ')=y:=⟨_,rfl⟩
  have hww:=hR _ _ h'
  rw [hres,houts] at hww
  suffices hz:∃ v,(results fn tm').run P w' = .ok v w'∧
    ∃ v1 lim1 X1,Ending.returned v = .returned v1∧Jf w lim w' lim1 (fun b=>∃ i k,X i k=some b)∧outs0.length=(args.map (SV.den ρ)).length∧
     (∀ i,ZV P w' lim1 X1 (Z0 (outs0++[res0])) i (Z0 (outs0++[res0]) i) (Wd (args.map (SV.den ρ)).length cargs v1 i))∧Zho X1∧
     (∀ i k b,X1 i k=some b→b < w'.heap.size∧((∃ i k,X i k=some b)∨w.heap.size≤b))∧∀ i,(Z0 (outs0++[res0]) i).isG=true→(Z0 (args.map (SV.den ρ)) i).isG=true∧X1 i 0=X i 0 by
   obtain ⟨v,hrun,v1,lim1,X1,he,hst,hol,hr,hd,hin,hgh⟩:=hz
   obtain ⟨X3,k1,k3,k2⟩:=Zbk hr hww
   have hX3:∀ i k b,X3 i k=some b→X1 i k=some b:=by
    intro i k b hb
    rcases k1 i k with e | e
    ·rw [← e];exact hb
    ·rw [e] at hb;cases hb
   have hll:outs0.length=outs.length:=by have:=hww.1;simpa using this
   refine ⟨v,hrun,v1,lim1,X3,he,hst,by rw [← hll,hol],k2,ZdJ hd k1,fun i k b hb=>hin i k b (hX3 i k b hb),fun i hi=>?_⟩
   obtain ⟨m1,m2⟩:=hgh i (Zcu hww hi)
   exact ⟨m1,by rw [k3 i (We hi),m2]⟩
  rw [hres,houts] at hval
  obtain ⟨v,hv1,hv2⟩:=hval
  have hol:outs0.length=args.length:=by rw [← houts,List.length_map,ZcW]
  have hrt:∀ i,Wd (args.map (SV.den ρ)).length cargs v i=if i=args.length then v else cargs.getD i undef:=by
   intro i
   unfold Wd
   rw [List.length_map]
  have hout:∀ i,i < args.length→Z0 (outs0++[res0]) i=match args[i]? with | some a=>if a.isBx=true then Jb E s' ρ' i else .dead | none=>.dead:=by
   intro i hi
   simp only [Z0]
   rw [List.getElem?_append_left (by omega),← houts,List.getElem?_map,Zfp,Nat.zero_add]
   have:=List.getElem?_eq_getElem hi
   rw [this]
   simp only [Option.map_some,Option.getD_some]
   split<;>rfl
  have hgpn:∀ i cs,args[i]? = some (.gbox cs)→X' i 0=X i 0∧(Jb E s' ρ' i).isG=true:=by
   intro i cs hcs
   have hri:=hrel i
   have h2:Z0 (args.map (SV.den ρ)) i = .gbox (cs.map (BC.den ρ)):=by simp only [Z0,List.getElem?_map,hcs];rfl
   rw [h2] at hri
   obtain ⟨v',hp⟩:=hri
   obtain ⟨b,hb,_⟩:=Yx hp
   obtain ⟨g1,g2⟩:=hsim'.gpin i b (by show (match args[i]? with | some (.gbox _)=>X i 0 | _=>none)=_;rw [hcs];exact hb)
   exact ⟨by rw [g1,hb],g2⟩
  refine ⟨v,hv1,v,lim',fun i k=>(SRC i k).bind fun p=>X' p.1 p.2,rfl,⟨hsim'.frm.os,hsim'.frm.tape,hsim'.frm.output,hsim'.frm.size,hsim'.frm.frz,hsim'.frm.blk,hsim'.frm.ext⟩,by rw [hol,List.length_map],fun i=>?_,fun d k d' k' b hb hb'=>?_,fun i k b hb=>?_,fun i hi=>?_⟩
  ·rw [hrt]
   rcases Nat.lt_trichotomy i args.length with hi | hi | hi
   ·rw [if_neg (by omega),hout i hi]
    obtain ⟨a,ha⟩:=hcd i hi
    rw [ha]
    dsimp only
    have hrow:a.isBx=true→(fun k=>(SRC i k).bind fun p=>X' p.1 p.2)=X' i:=by
     intro hbx
     funext k
     rw [hA i hi k,ha,if_pos (by simp [hbx])]
     rfl
    cases a with
    | box cs =>
     rw [if_pos (show (SV.box cs).isBx=true from rfl)]
     obtain ⟨p1,cs',p2⟩:=hsim'.pin i (cargs.getD i undef) (by show (match args[i]? with | some (.box _)=>some (cargs.getD i undef) | _=>none)=_;rw [ha])
     have hrl:=hsim'.rel i
     rw [p2,p1] at hrl
     rw [p2]
     show ZB P w' lim' (fun k=>(SRC i k).bind fun p=>X' p.1 p.2) cs' _
     rw [hrow rfl]
     exact hrl
    | gbox cs =>
     rw [if_pos (show (SV.gbox cs).isBx=true from rfl)]
     obtain ⟨_,g2⟩:=hgpn i cs ha
     have hrl:=hsim'.rel i
     generalize Jb E s' ρ' i=x at g2 hrl
     cases x<;>simp [AV.isG] at g2
     obtain ⟨v',hrl⟩:=hrl
     refine ⟨v',?_⟩
     show ZB P w' lim' (fun k=>(SRC i k).bind fun p=>X' p.1 p.2) _ v'
     rw [hrow rfl]
     exact hrl
    | _ => exact trivial
   ·subst hi
    have hout:Z0 (outs0++[res0]) args.length=res0:=by
     simp only [Z0]
     rw [List.getElem?_append_right (by omega),hol]
     simp
    rw [if_pos rfl,hout]
    exact hv2
   ·have hout:Z0 (outs0++[res0]) i = .dead:=by
     simp only [Z0]
     rw [List.getElem?_eq_none (by simp;omega)]
     rfl
    rw [hout]
    trivial
  ·cases hp:SRC d k with
   | none => simp [hp] at hb
   | some p =>
    cases hp':SRC d' k' with
    | none => simp [hp'] at hb'
    | some p' =>
     simp only [hp,hp',Option.bind_some] at hb hb'
     obtain ⟨e1,e2⟩:=hsim'.dist _ _ _ _ b hb hb'
     have:p=p':=Prod.ext e1 e2
     subst this
     exact hB _ _ _ _ _ hp hp'
  ·cases hp:SRC i k with
   | none => simp [hp] at hb
   | some p =>
    simp only [hp,Option.bind_some] at hb
    exact hsim'.ours _ _ b hb
  ·rcases Nat.lt_trichotomy i args.length with hl | hl | hl
   ·rw [hout i hl] at hi
    obtain ⟨a,ha⟩:=hcd i hl
    rw [ha] at hi
    dsimp only at hi
    cases a with
    | gbox cs =>
     obtain ⟨g1,g2⟩:=hgpn i cs ha
     refine ⟨by simp only [Z0,List.getElem?_map,ha];rfl,?_⟩
     show (SRC i 0).bind (fun p=>X' p.1 p.2)=X i 0
     rw [hA i hl 0,ha,if_pos (show (some (SV.gbox cs)).map SV.isBx=some true from rfl)]
     exact g1
    | box cs =>
     obtain ⟨p1,cs',p2⟩:=hsim'.pin i (cargs.getD i undef) (by show (match args[i]? with | some (.box _)=>some (cargs.getD i undef) | _=>none)=_;rw [ha])
     rw [if_pos (show (SV.box cs).isBx=true from rfl),p2] at hi
     cases hi
    | _ => cases hi
   ·subst hl
    have hres0:Z0 (outs0++[res0]) args.length=res0:=by
     simp only [Z0]
     rw [List.getElem?_append_right (by omega),hol]
     simp
    rw [hres0,← hres,hG0] at hi
    cases hi
   ·have:Z0 (outs0++[res0]) i = .dead:=by
     simp only [Z0]
     rw [List.getElem?_eq_none (by simp;omega)]
     rfl
    rw [this] at hi
    cases hi
 refine Zko hm hps hnt (c:=c) rfl rfl (fun d v hv=>?_) (fun d b hb=>?_) code 0 n _ _ _ _ _ ρ _ w lim X _ ?_ h hsim ?_ ?_ ?_
 ·obtain ⟨⟨cs,hcs⟩,_⟩:=hpin d v hv
  have:=(hat d _ hcs).1 cs rfl
  rwa [Nat.zero_add] at this
 ·have hb':(match args[d]? with | some (.gbox _)=>X d 0 | _=>none)=some b:=hb
  split at hb'
  ·rename_i cs hcs
   have h1:=(hat d _ hcs).2.1 rfl
   have h2:=(List.getElem?_eq_some_iff.1 hcs).1
   exact ⟨by omega,by omega⟩
  ·cases hb'
 ·refine JL hnt _ _ hlow (fun d=>?_) (ZdE args 0 hargs)
  unfold gE
  split<;>trivial
 ·intro s' n' ρ' A' _ hs' h' tm' w' lim' X' hsim'
  obtain ⟨v,h1,h2⟩:=hfin s' n' ρ' A' hs' h' tm' w' lim' X' hsim'
  exact ⟨rfl,v,h1,h2⟩
 ·intro id s' n' ρ' A' _ hs' h'
  exact h'.elim
 ·intro s' n' ρ' A' _ hs' h' tm' w' lim' X' hsim'
  obtain ⟨v,h1,h2⟩:=hfin s' n' ρ' A' hs' h' tm' w' lim' X' hsim'
  exact ⟨rfl,v,h1,h2⟩
end
end Go.AM
end

section
namespace Go.AM
@[reducible] def Sh.T:Sh→Type
 | .int _ => Int
 | .bool => Bool
 | .str => ByteArray
 | .slice _ => List (List AV)
 | .own _ _ => List (List AV)
@[reducible] def ShsT:List Sh→Type
 | [] => Unit
 | [s] => s.T
 | s :: t :: r => s.T × ShsT (t :: r)
def Sh.toV:(s:Sh)→s.T→V
 | .int _, z => .i z
 | .bool, z => .b z
 | .str, z => .s z
 | .slice _, z => .l z
 | .own _ _, z => .l z
def Sh.ofV:(s:Sh)→V→Option s.T
 | .int _, .i z => some z
 | .bool, .b z => some z
 | .str, .s z => some z
 | .slice _, .l z => some z
 | .own _ _, .l z => some z
 | _, _ => none
def Za6:(l:List Sh)→ShsT l→List V
 | [], _ => []
 | [s], x => [s.toV x]
 | s :: t :: r, x => s.toV x.1 :: Za6 (t :: r) x.2
def ZkC:(l:List Sh)→List V→Option (ShsT l)
 | [], [] => some ()
 | [], _ :: _ => none
 | [s], [v] => s.ofV v
 | [_], [] => none
 | [_], _ :: _ :: _ => none
 | _ :: _ :: _, [] => none
 | s :: t :: r, v :: vs => match s.ofV v, ZkC (t :: r) vs with | some a, some b => some (a, b) | _, _ => none
theorem Zhn {s:Sh} {v:V} {x:s.T} (h:s.ofV v=some x):s.toV x=v:=by
 cases s<;>cases v<;>simp [Sh.ofV] at h<;>subst h<;>rfl
theorem Zdf:∀ (l:List Sh) (vs:List V) (x:ShsT l),ZkC l vs=some x→Za6 l x=vs
 | [], [], _, _ => rfl
 | [], _ :: _, _, h => by simp [ZkC] at h
 | [s], [v], x, h => by simp only [Za6, Zhn (show s.ofV v = some x from h)]
 | [_], [], _, h => by simp [ZkC] at h
 | [_], _ :: _ :: _, _, h => by simp [ZkC] at h
 | _ :: _ :: _, [], _, h => by simp [ZkC] at h
 | s :: t :: r, v :: vs, x, h => by
  simp only [ZkC] at h
  split at h
  ·rename_i a b ha hb
   simp only [Option.some.injEq] at h
   subst h
   simp only [Za6,Zhn ha,Zdf (t::r) vs b hb]
  ·cases h
def Sh.ofE:(s:Sh)→AV→Option s.T
 | .int k, .val (.int k' z) => if k' = k then some z else none
 | .bool, .val (.bool b) => some b
 | .str, .val (.string b) => some b
 | .slice s, .slice false s' xs => if s' = s then some xs else none
 | _, _ => none
def ZiD:(l:List Sh)→List AV→Option (ShsT l)
 | [], [] => some ()
 | [], _ :: _ => none
 | [s], [c] => s.ofE c
 | [_], [] => none
 | [_], _ :: _ :: _ => none
 | _ :: _ :: _, [] => none
 | s :: t :: r, c :: cs => match s.ofE c, ZiD (t :: r) cs with | some a, some b => some (a, b) | _, _ => none
theorem ZgZ {s:Sh} {c:AV} {x:s.T} {n:Nat} {ρ:Nat→V} (h:s.ofE c=some x) (hρ:ρ n=s.toV x):(Yn s n).den ρ=c:=by
 unfold Sh.ofE at h
 split at h
 ·split at h
  ·simp only [Option.some.injEq] at h
   subst h
   rename_i hk
   subst hk
   simp only [Yn,SC.den,IE.den,hρ,Sh.toV,V.int]
  ·cases h
 ·simp only [Option.some.injEq] at h
  subst h
  simp only [Yn,SC.den,BE.den,hρ,Sh.toV,V.bool]
 ·simp only [Option.some.injEq] at h
  subst h
  simp only [Yn,SC.den,SE.den,hρ,Sh.toV,V.str]
 ·split at h
  ·simp only [Option.some.injEq] at h
   subst h
   rename_i hk
   subst hk
   simp only [Yn,SC.den,LE.den,hρ,Sh.toV,V.list]
  ·cases h
 ·cases h
theorem ZfH:∀ (l:List Sh) (cs:List AV) (x:ShsT l) (n:Nat) (ρ:Nat→V),ZiD l cs=some x→Zfw ρ n (Za6 l x)→(ZY l n).map (SC.den ρ)=cs
 | [], [], _, _, _, _, _ => rfl
 | [], _ :: _, _, _, _, h, _ => by simp [ZiD] at h
 | [s], [c], x, n, ρ, h, hf => by
  have h0:=hf 0 _ (show (Za6 [s] x)[0]? = some (s.toV x) from rfl)
  rw [Nat.add_zero] at h0
  simp only [ZY,List.map_cons,List.map_nil,ZgZ (show s.ofE c=some x from h) h0]
 | [_], [], _, _, _, h, _ => by simp [ZiD] at h
 | [_], _ :: _ :: _, _, _, _, h, _ => by simp [ZiD] at h
 | _ :: _ :: _, [], _, _, _, h, _ => by simp [ZiD] at h
 | s :: t :: r, c :: cs, x, n, ρ, h, hf => by
  simp only [ZiD] at h
  split at h
  ·rename_i a b ha hb
   simp only [Option.some.injEq] at h
   subst h
   obtain ⟨h0,h1⟩:=Zfw.tail (show Zfw ρ n (s.toV a::Za6 (t::r) b) from hf)
   have h2:=ZfH (t::r) cs b (n+1) ρ hb h1
   rw [ZY,List.map_cons,ZgZ ha h0,h2]
  ·cases h
def Zi {γ:Type} (p:Prop) [Decidable p] (x:Option γ):Option γ:=if p then x else none
theorem ZC {γ:Type} {p:Prop} {_:Decidable p} (h:p) (x:Option γ):Zi p x=x:=if_pos h
theorem ZcT {γ:Type} {p:Prop} {_:Decidable p} {x:Option γ} {r:γ} (h:Zi p x=some r):p∧x=some r:=by
 unfold Zi at h
 split at h
 ·exact ⟨‹_›,h⟩
 ·cases h
def ZlJ:Value→Value→Bool
 | .int k z, .int k' z' => decide (k = k') && decide (z = z')
 | .bool b, .bool b' => b == b'
 | .string s, .string s' => decide (s = s')
 | _, _ => false
theorem Zao {a b:Value} (h:ZlJ a b=true):a=b:=by
 unfold ZlJ at h
 split at h
 ·simp only [Bool.and_eq_true,decide_eq_true_eq] at h
  rw [h.1,h.2]
 ·rw [beq_iff_eq] at h
  rw [h]
 ·rw [decide_eq_true_eq] at h
  rw [h]
 ·cases h
def Zlx {α:Type} (q:α→α→Bool):List α→List α→Bool
 | [], [] => true
 | a :: aZ, b :: bs => q a b && Zlx q aZ bs
 | _, _ => false
theorem Y3 {α:Type} {q:α→α→Bool} (hq:∀ a b,q a b=true→a=b):∀ (aZ bs:List α),Zlx q aZ bs=true→aZ=bs
 | [], [], _ => rfl
 | [], _ :: _, h => by cases h
 | _ :: _, [], h => by cases h
 | a :: aZ, b :: bs, h => by
  simp only [Zlx,Bool.and_eq_true] at h
  rw [hq a b h.1,Y3 hq aZ bs h.2]
def Znr:Nat→AV→AV→Bool
 | _, .val a, .val b => ZlJ a b
 | n + 1, .slice f s xs, .slice f' s' ys => f == f' && (decide (s = s') && Zlx (Zlx (Znr n)) xs ys)
 | _, _, _ => false
theorem Zgd:∀ (n:Nat) (a b:AV),Znr n a b=true→a=b:=by
 intro n
 induction n with
 | zero =>
  intro a b h
  unfold Znr at h
  split at h
  ·rw [Zao h]
  ·rename_i hn;cases hn
  ·cases h
 | succ n ih =>
  intro a b h
  unfold Znr at h
  split at h
  ·rw [Zao h]
  ·rename_i hn
   cases hn
   simp only [Bool.and_eq_true,beq_iff_eq,decide_eq_true_eq] at h
   rw [h.1,h.2.1,Y3 (fun x y hxy=>Y3 ih x y hxy) _ _ h.2.2]
  ·cases h
section
open Classical in
noncomputable instance decLL:DecidableEq (List (List AV)):=fun a b=>if h:Zlx (Zlx (Znr 8)) a b=true then isTrue (Y3 (fun x y hxy=>Y3 (Zgd 8) x y hxy) _ _ h) else propDecidable _
end
@[reducible] noncomputable def Sh.dec:(s:Sh)→DecidableEq s.T
 | .int _ => inferInstanceAs (DecidableEq Int)
 | .bool => inferInstanceAs (DecidableEq Bool)
 | .str => inferInstanceAs (DecidableEq ByteArray)
 | .slice _ => decLL
 | .own _ _ => decLL
@[reducible] noncomputable def decS:(l:List Sh)→DecidableEq (ShsT l)
 | [] => inferInstanceAs (DecidableEq Unit)
 | [s] => s.dec
 | s :: t :: r => @instDecidableEqProd _ _ s.dec (decS (t :: r))
def ZlF {γ:Type} [d:DecidableEq γ] (l:List (List AV)) (k:Bool→Option γ):Option γ:=
 match l with
 | [] => if k true = k false then k true else none
 | _ :: _ => k false
theorem Zis {γ:Type} {d:DecidableEq γ} {l:List (List AV)} {k:Bool→Option γ} {r:γ} (h:ZlF l k=some r) (b:Bool) (hb:b=true→l = []):k b=some r:=by
 unfold ZlF at h
 split at h
 ·split at h
  ·rename_i he
   cases b
   ·rw [← he];exact h
   ·exact h
  ·cases h
 ·cases b
  ·exact h
  ·cases hb rfl
theorem Zlu {γ:Type} {d:DecidableEq γ} {l:List (List AV)} {k:Bool→Option γ} {r:Option γ} (h1:l = []→k true=r) (h2:k false=r):ZlF l k=r:=by
 unfold ZlF
 split
 ·rw [h1 rfl,h2,if_pos rfl]
 ·exact h2
def Zj {γ:Type} (l:List (List AV)) (i:Int) (sh:List Sh) (k:ShsT sh→Option γ):Option γ:=
 if 0≤i then match l[i.toNat]? with | some cs=>(match ZiD sh cs with | some r=>k r | none=>none) | none=>none else none
theorem YO {γ:Type} {l:List (List AV)} {i:Int} {sh:List Sh} {cs:List AV} {r:ShsT sh} (k:ShsT sh→Option γ) (h0:0≤i) (h1:l[i.toNat]? = some cs) (h2:ZiD sh cs=some r):Zj l i sh k=k r:=by
 simp only [Zj,h0,if_true,h1,h2]
theorem ZgN {γ:Type} {l:List (List AV)} {i:Int} {sh:List Sh} {k:ShsT sh→Option γ} {x:γ} (h:Zj l i sh k=some x):0≤i∧∃ cs r,l[i.toNat]? = some cs∧ZiD sh cs=some r∧k r=some x:=by
 unfold Zj at h
 split at h
 ·refine ⟨‹_›,?_⟩
  split at h
  ·split at h
   ·exact ⟨_,_,‹_›,‹_›,h⟩
   ·cases h
  ·cases h
 ·cases h
def Zbh {γ:Type} (F:(List V→Option γ)→List V→Option γ):Nat→List V→Option γ
 | 0 => fun _ => none
 | k + 1 => F (Zbh F k)
def ZZ:Nat:=1208925819614629174706176
inductive AP where
 | c (s : Sh)
 | agg (l : List Sh)
 | box (l : List Sh)
 | gbox (l : List Sh)
 | clo (g : FuncId) (ds : List Nat)
 | dead
def RSh.sh:RSh→List Sh
 | .c s => [s]
 | .agg l => l
 | .box l => l
def JY:List AP→List Sh
 | [] => []
 | .box l :: r => l ++ JY r
 | .gbox l :: r => l ++ JY r
 | _ :: r => JY r
def Wi (rs:List RSh) (aps:List AP):List Sh:=rs.flatMap RSh.sh++JY aps
structure Fun where
 args:List AP
 res:List RSh
 g:List V→Option (ShsT (Wi res args))
def YW (r:RSh) (us:List V) (j:Nat):AV:=
 match r with
 | .c s => YI s (vAt us j)
 | .agg l => .agg (Z3 l us j)
 | .box l => .box (Z3 l us j)
def JW:List RSh→List V→Nat→List AV
 | [], _, _ => []
 | r :: rs, us, j => YW r us j :: JW rs us (j + r.sh.length)
def YN (rs:List RSh) (us:List V) (j:Nat):AV:=
 match rs with
 | [r] => YW r us j
 | rs => .tuple (JW rs us j)
def Z8:List AP→List V→Nat→List AV
 | [], _, _ => []
 | .box l :: r, us, j => .box (Z3 l us j) :: Z8 r us (j + l.length)
 | .gbox l :: r, us, j => .gbox (Z3 l us j) :: Z8 r us (j + l.length)
 | _ :: r, us, j => .dead :: Z8 r us j
def AP.n:AP→Nat
 | .c _ => 1
 | .agg l => l.length
 | .box l => l.length
 | .gbox l => l.length
 | .clo _ _ => 0
 | .dead => 0
def Zhe (a:AP) (us:List V) (j:Nat):AV:=
 match a with
 | .c s => YI s (vAt us j)
 | .agg l => .agg (Z3 l us j)
 | .box l => .box (Z3 l us j)
 | .gbox l => .gbox (Z3 l us j)
 | .clo g ds => .clo g ds
 | .dead => .dead
def YX:List AP→List V→Nat→List AV
 | [], _, _ => []
 | a :: r, us, j => Zhe a us j :: YX r us (j + a.n)
def Zd4 (rs:List RSh):Nat:=(rs.flatMap RSh.sh).length
def Fun.Ok (P:Program) (f:FuncId) (S:Fun):Prop:=
 ∀ vs r,S.g vs=some r→JE P f (YX S.args vs 0) (YN S.res (Za6 _ r) 0) (Z8 S.args (Za6 _ r) (Zd4 S.res))
def Zie (P:Program):List (FuncId×Fun)→Prop
 | [] => True
 | p :: r => p.2.Ok P p.1 ∧ Zie P r
def AP.sig:AP→Option (FuncId×List Nat)
 | .clo g ds => some (g, ds)
 | _ => none
def SV.sig:SV→Option (FuncId×List Nat)
 | .clo g ds => some (g, ds)
 | _ => none
def ZhM:List (FuncId×Fun)→FuncId→List (FuncId×List Nat)→Option Fun
 | [], _, _ => none
 | p :: r, f, sg => if p.1 = f ∧ p.2.args.filterMap AP.sig = sg then some p.2 else ZhM r f sg
theorem ZeT {P:Program} : ∀ {Φ:List (FuncId×Fun)} {f:FuncId} {sg:List (FuncId×List Nat)} {S:Fun},Zie P Φ→ZhM Φ f sg=some S→S.Ok P f
 | [], _, _, _, _, h => by simp [ZhM] at h
 | p :: r, f, sg, S, ho, h => by
  simp only [ZhM] at h
  split at h
  ·rename_i hp
   simp only [Option.some.injEq] at h
   obtain ⟨hp,_⟩:=hp
   subst hp
   subst h
   exact ho.1
  ·exact ZeT ho.2 h
def ZlW (P:Program):Sh→AV→Option V
 | .int k, .val (.int k' z) => if k' = k then some (.i z) else none
 | .bool, .val (.bool b) => some (.b b)
 | .str, .val (.string s) => some (.s s)
 | .slice s, .slice _ s' xs => if s' = s then some (.l xs) else (match xs with | [] => some (.l []) | _ :: _ => none)
 | .slice s, .own x e xs => if P.cellsOf e = s then (match x, xs with | false, xs => some (.l xs) | true, [] => some (.l []) | true, _ :: _ => none) else none
 | .own x e, .own x' e' xs => if e' = e then (match x, x', xs with | false, false, xs => some (.l xs) | true, true, xs => some (.l xs) | _, _, [] => some (.l []) | _, _, _ :: _ => none) else none
 | .own _ _, .slice true _ xs => (match xs with | [] => some (.l []) | _ :: _ => none)
 | _, _ => none
def ZcG (P:Program):List Sh→List AV→Option (List V)
 | [], [] => some []
 | s :: ss, c :: cs => match ZlW P s c, ZcG P ss cs with | some v, some vs => some (v :: vs) | _, _ => none
 | _, _ => none
def ZnU (P:Program):AP→AV→Option (List V)
 | .c s, x => (ZlW P s x).map fun v => [v]
 | .agg l, .agg cs => if l.all Sh.imm = true then ZcG P l cs else none
 | .box l, .box cs => ZcG P l cs
 | .gbox l, .gbox cs => ZcG P l cs
 | .clo g ds, .clo g' ds' => if g' = g ∧ ds' = ds then some [] else none
 | .dead, .dead => some []
 | _, _ => none
def Za0 (P:Program):List AP→List AV→Option (List V)
 | [], [] => some []
 | a :: aZ, x :: xs => match ZnU P a x, Za0 P aZ xs with | some vs, some us => some (vs ++ us) | _, _ => none
 | _, _ => none
theorem ZhR {P:Program} {s:Sh} {c:AV} {v:V} (h:ZlW P s c=some v):Ym P c (YI s v):=by
 unfold ZlW at h
 split at h
 ·split at h
  ·simp only [Option.some.injEq] at h;subst h;rename_i hk;subst hk;exact .same (.inl rfl)
  ·cases h
 ·simp only [Option.some.injEq] at h;subst h;exact .same (.inl rfl)
 ·simp only [Option.some.injEq] at h;subst h;exact .same (.inl rfl)
 ·split at h
  ·simp only [Option.some.injEq] at h;subst h;rename_i hk;subst hk;exact .imm
  ·split at h
   ·simp only [Option.some.injEq] at h;subst h;exact .immN
   ·cases h
 ·split at h
  ·rename_i hk
   subst hk
   split at h
   ·simp only [Option.some.injEq] at h;subst h;exact .own
   ·simp only [Option.some.injEq] at h;subst h;exact .ownZ
   ·cases h
  ·cases h
 ·split at h
  ·rename_i hk
   subst hk
   split at h
   ·simp only [Option.some.injEq] at h;subst h;exact .same (.inr ⟨_,_,_,rfl⟩)
   ·simp only [Option.some.injEq] at h;subst h;exact .same (.inr ⟨_,_,_,rfl⟩)
   ·simp only [Option.some.injEq] at h;subst h;exact .ownN
   ·cases h
  ·cases h
 ·split at h
  ·simp only [Option.some.injEq] at h;subst h;exact .give
  ·cases h
 ·cases h
theorem WX {P:Program} : ∀ (l:List Sh) (cs:List AV) (vs:List V),ZcG P l cs=some vs→vs.length=l.length∧cs.length=l.length∧∀ pre post:List V,
  ∀ (i:Nat) (c c':AV),cs[i]? = some c→(Z3 l (pre++vs++post) pre.length)[i]? = some c'→Ym P c c'
 | [], [], vs, h => by
  simp only [ZcG,Option.some.injEq] at h
  subst h
  exact ⟨rfl,rfl,fun _ _ i c c' h=>by simp at h⟩
 | [], _ :: _, _, h => by simp [ZcG] at h
 | _ :: _, [], _, h => by simp [ZcG] at h
 | s :: ss, c :: cs, us, h => by
  simp only [ZcG] at h
  split at h
  ·rename_i v vs hv hvs
   simp only [Option.some.injEq] at h
   subst h
   obtain ⟨h1,h2,h3⟩:=WX (P:=P) ss cs vs hvs
   refine ⟨by simp [h1],by simp [h2],fun pre post i c1 c2 hc1 hc2=>?_⟩
   cases i with
   | zero =>
    simp only [Z3,List.getElem?_cons_zero,Option.some.injEq] at hc1 hc2
    subst hc1
    subst hc2
    rw [List.append_assoc,List.cons_append,Ky]
    exact ZhR hv
   | succ i =>
    have:=h3 (pre++[v]) post i c1 c2 (by simpa using hc1)
    simp only [List.append_assoc,List.cons_append,List.nil_append,List.length_append,List.length_cons,List.length_nil] at this
    simp only [Z3,List.getElem?_cons_succ,List.append_assoc,List.cons_append] at hc2
    exact this hc2
  ·cases h
theorem Zlh {P:Program} {a:AP} {x:AV} {vs:List V} (h:ZnU P a x=some vs):vs.length=a.n∧((∃ g ds,a = .clo g ds∧x = .clo g ds)∨∀ pre post:List V,YH P x (Zhe a (pre++vs++post) pre.length)):=by
 unfold ZnU at h
 split at h
 ·cases hd:ZlW P _ x with
  | none => rw [hd] at h; cases h
  | some v =>
   rw [hd] at h
   simp only [Option.map_some,Option.some.injEq] at h
   subst h
   refine ⟨rfl,.inr fun pre post=>?_⟩
   simp only [Zhe,List.append_assoc,List.cons_append,List.nil_append,Ky]
   exact .comp (.cell (ZhR hd))
 ·rename_i l cs
  split at h
  ·rename_i hi
   obtain ⟨h1,h2,h3⟩:=WX (P:=P) _ _ _ h
   exact ⟨h1,.inr fun pre post=>.comp (.agg (by rw [h2,Jj]) (Kj _ _ _ hi) (h3 pre post))⟩
  ·cases h
 ·obtain ⟨h1,h2,h3⟩:=WX (P:=P) _ _ _ h
  exact ⟨h1,.inr fun pre post=>.box (by rw [h2,Jj]) (h3 pre post)⟩
 ·obtain ⟨h1,h2,h3⟩:=WX (P:=P) _ _ _ h
  exact ⟨h1,.inr fun pre post=>.gbox (by rw [h2,Jj]) (h3 pre post)⟩
 ·split at h
  ·rename_i hh
   simp only [Option.some.injEq] at h
   subst h
   obtain ⟨rfl,rfl⟩:=hh
   exact ⟨rfl,.inl ⟨_,_,rfl,rfl⟩⟩
  ·cases h
 ·simp only [Option.some.injEq] at h
  subst h
  exact ⟨rfl,.inr fun _ _=>.dead⟩
 ·cases h
theorem Zbx:∀ (l:List AP) (us:List V) (j:Nat),(YX l us j).length=l.length
 | [], _, _ => rfl
 | _ :: ss, us, j => by simp [YX, Zbx ss us]
theorem Zfn {P:Program} : ∀ (aZ:List AP) (xs:List AV) (vs:List V),Za0 P aZ xs=some vs→xs.length=aZ.length∧∀ pre post:List V,
  ∀ (i:Nat) (c c':AV),xs[i]? = some c→(YX aZ (pre++vs++post) pre.length)[i]? = some c'→(∃ g ds,aZ[i]? = some (.clo g ds)∧c = .clo g ds∧c' = .clo g ds)∨YH P c c'
 | [], [], _, _ => ⟨rfl, fun _ _ i c c' h => by simp at h⟩
 | [], _ :: _, _, h => by simp [Za0] at h
 | _ :: _, [], _, h => by simp [Za0] at h
 | a :: aZ, x :: xs, ws, h => by
  simp only [Za0] at h
  split at h
  ·rename_i vs us hv hus
   simp only [Option.some.injEq] at h
   subst h
   obtain ⟨h1,h2⟩:=Zlh (P:=P) hv
   obtain ⟨h3,h4⟩:=Zfn (P:=P) aZ xs us hus
   refine ⟨by simp [h3],fun pre post i c1 c2 hc1 hc2=>?_⟩
   cases i with
   | zero =>
    simp only [YX,List.getElem?_cons_zero,Option.some.injEq] at hc1 hc2
    subst hc1
    subst hc2
    rcases h2 with ⟨g,ds,rfl,rfl⟩ | h2
    ·exact .inl ⟨g,ds,rfl,rfl,rfl⟩
    ·have:=h2 pre (us++post)
     exact .inr (by simpa [List.append_assoc] using this)
   | succ i =>
    have:=h4 (pre++vs) post i c1 c2 (by simpa using hc1)
    rw [List.length_append,h1] at this
    simp only [YX,List.getElem?_cons_succ] at hc2
    refine this ?_
    simpa [List.append_assoc] using hc2
  ·cases h
def ZaW (aZ:List AP):Bool:=aZ.all fun a=>match a with | .clo _ ds=>ds.all (fun d=>match aZ[d]? with | some (.gbox _)=>true | _=>false) | _=>true
theorem Zd1:∀ (aZ:List AP) (us:List V) (j i:Nat) (a:AP),aZ[i]? = some a→∃ k,(YX aZ us j)[i]? = some (Zhe a us k)
 | [], _, _, _, _, h => by simp at h
 | b :: aZ, us, j, 0, a, h => by
  simp only [List.getElem?_cons_zero,Option.some.injEq] at h
  subst h
  exact ⟨j,rfl⟩
 | b :: aZ, us, j, i + 1, a, h => by
  obtain ⟨k,hk⟩:=Zd1 aZ us (j+b.n) i a (by simpa using h)
  exact ⟨k,by simpa [YX] using hk⟩
theorem Zd8 {P:Program} {aZ:List AP} {xs:List AV} {vs:List V} (hc:ZaW aZ=true) (h:Za0 P aZ xs=some vs):Va P xs (YX aZ vs 0):=by
 obtain ⟨h1,h2⟩:=Zfn (P:=P) aZ xs vs h
 refine ⟨by rw [h1,Zbx],fun i c c' hx hc'=>?_⟩
 rcases h2 [] [] i c c' hx (by simpa using hc') with ⟨g,ds,k1,rfl,rfl⟩ | hw
 ·refine .inr ⟨g,ds,rfl,rfl,fun d hd=>?_⟩
  unfold ZaW at hc
  rw [List.all_eq_true] at hc
  have h3:=hc _ (List.mem_of_getElem? k1)
  simp only at h3
  rw [List.all_eq_true] at h3
  have h4:=h3 d hd
  split at h4
  ·rename_i l hl
   obtain ⟨k,hk⟩:=Zd1 aZ vs 0 d _ hl
   simp only [Z0,hk]
   rfl
  ·cases h4
 ·exact .inl hw
def Zgk (a:AP) (x:AV):AV:=
 match a,x with
 | .c (.slice _), .own true e xs => .own false e xs
 | .c (.own false _), .own true e xs => .own false e xs
 | _, x => x
def ZdT:List AP→List AV→List AV
 | a :: aZ, x :: xs => Zgk a x :: ZdT aZ xs
 | _, xs => xs
theorem W9 (a:AP) (x:AV):Zgk a x=x∨∃ e xs,x = .own true e xs∧Zgk a x = .own false e xs:=by
 unfold Zgk
 split
 ·exact .inr ⟨_,_,rfl,rfl⟩
 ·exact .inr ⟨_,_,rfl,rfl⟩
 ·exact .inl rfl
theorem ZeD (pre post:List AV) (x:AV) (i:Nat):Z0 (pre++x::post) i=if i=pre.length then x else Z0 (pre++.dead::post) i:=by
 unfold Z0
 by_cases hi:i=pre.length
 ·subst hi
  rw [if_pos rfl,List.getElem?_append_right (Nat.le_refl _),Nat.sub_self]
  rfl
 ·rw [if_neg hi]
  by_cases hlt:i < pre.length
  ·rw [List.getElem?_append_left hlt,List.getElem?_append_left hlt]
  ·rw [List.getElem?_append_right (by omega),List.getElem?_append_right (by omega)]
   obtain ⟨j,hj⟩:∃ j,i-pre.length=j+1:=⟨i-pre.length-1,by omega⟩
   rw [hj,List.getElem?_cons_succ,List.getElem?_cons_succ]
theorem Zg3 {P:Program} {w:World} {lim:Nat→Nat} {e:TypeId} {xs:List (List AV)} {v:Value} (h:Jq P w lim true e xs v none):Jq P w lim false e xs v none:=by
 rcases h with ⟨us,h1,h2,h3,h4,h5,h6⟩ | h
 ·exact .inl ⟨us,h1,h2,fun b hb=>(by cases hb),h4,h5,h6⟩
 ·exact .inr h
theorem JE.freeze1 {P:Program} {f:FuncId} {pre post:List AV} {e:TypeId} {xs:List (List AV)} {res:AV} {outs:List AV} (h:JE P f (pre++.own false e xs::post) res outs)
  (hn:∀ x∈pre++post,∀ d k,¬ Jm x d k):JE P f (pre++.own true e xs::post) res outs:=by
 refine ⟨h.1,fun w lim X cargs hcl hrel hdist hsize=>?_⟩
 have hat:∀ (b:Bool) (i:Nat),Z0 (pre++.own b e xs::post) i=if i=pre.length then .own b e xs else Z0 (pre++.dead::post) i:=fun b i=>ZeD pre post _ i
 have hnr:∀ i d k,i≠pre.length→¬ Jm (Z0 (pre++.dead::post) i) d k:=by
  intro i d k hi hr
  have hx:Z0 (pre++.dead::post) i = .dead∨Z0 (pre++.dead::post) i∈pre++post:=by
   unfold Z0
   cases hx:(pre++AV.dead::post)[i]? with
   | none => exact .inl rfl
   | some x =>
    have hm:=List.mem_of_getElem? hx
    rw [List.mem_append,List.mem_cons] at hm
    rcases hm with hm | rfl | hm
    ·exact .inr (List.mem_append_left _ hm)
    ·exact .inl rfl
    ·exact .inr (List.mem_append_right _ hm)
  rcases hx with hx | hx
  ·rw [hx] at hr
   rcases hr with hr | ⟨_,hr⟩ <;> cases hr
  ·exact hn _ hx d k hr
 have h0:=hrel pre.length
 rw [hat,if_pos rfl] at h0
 have h0':Jq P w lim true e xs (cargs.getD pre.length undef) (X pre.length 0):=h0
 obtain ⟨lim1,he,hk,hown⟩:∃ lim1,Ext w lim w lim1∧(∀ b,X pre.length 0≠some b→lim1 b=lim b)∧Jq P w lim1 false e xs (cargs.getD pre.length undef) (X pre.length 0):=by
  cases hb:X pre.length 0 with
  | none => rw [hb] at h0'; exact ⟨lim, Ext.refl _ _, fun _ _ => rfl, Zg3 h0'⟩
  | some b0 =>
   rw [hb] at h0'
   have hl0:lim b0=0:=by
    rcases h0' with ⟨us,_,_,h3,_⟩ | ⟨_,h,_⟩
    ·rw [h3 b0 rfl];rfl
    ·cases h
   have hext:Ext w lim w (KB lim b0 (xs.length*P.cellsOf e)):=fun b _=>by
    refine ⟨?_,fun o u _ hu=>hu⟩
    unfold KB
    split
    ·rename_i h;rw [h,hl0];exact Nat.zero_le _
    ·exact Nat.le_refl _
   exact ⟨_,hext,fun b hne=>if_neg fun e=>hne (by rw [e]),Zak h0' hext⟩
 have hrel1:∀ i,ZV P w lim1 X (Z0 (pre++.own false e xs::post)) i (Z0 (pre++.own false e xs::post) i) (cargs.getD i undef):=by
  intro i
  by_cases hi:i=pre.length
  ·subst hi
   rw [hat,if_pos rfl]
   exact hown
  ·have h1:=hrel i
   have hne:Z0 (pre++.own false e xs::post) i=Z0 (pre++.own true e xs::post) i:=by rw [hat,hat,if_neg hi,if_neg hi]
   rw [hne]
   refine ZV.chg (h1.mono he (fun k b hb=>⟨rfl,hk b fun e=>hi (hdist i k pre.length 0 b hb e).1⟩) fun d' k b hr _=>?_) rfl (fun d' cs hd=>⟨⟨cs,?_⟩,rfl⟩) (fun d' hg=>⟨?_,rfl⟩) fun d' k hr=>?_
   ·rw [hat,if_neg hi] at hr
    exact (hnr i d' k hi (.inl hr)).elim
   ·rw [hat] at hd ⊢
    split at hd
    ·cases hd
    ·rename_i hd'
     rw [if_neg hd'];exact hd
   ·rw [hat] at hg ⊢
    split at hg
    ·cases hg
    ·rename_i hd'
     rw [if_neg hd'];exact hg
   ·rw [hat,if_neg hi] at hr
    exact (hnr i d' k hi hr).elim
 have hcnt:(pre++AV.own true e xs::post).countP AV.isG=(pre++AV.own false e xs::post).countP AV.isG:=by
  simp [List.countP_append,List.countP_cons,AV.isG]
 have hll:(pre++AV.own true e xs::post).length=(pre++AV.own false e xs::post).length:=by simp
 refine (h.2 w lim1 X cargs (by rw [← hcnt,← hll];exact hcl) hrel1 hdist hsize).mono ?_
 rintro e' w' ⟨v,lim',X',he',hst,hol,hr,hd,hin,hgh⟩
 refine ⟨v,lim',X',he',⟨hst.os,hst.tape,hst.output,hst.size,hst.frz,fun b hb hn'=>?_,he.trans hst.ext (Nat.le_refl _)⟩,by rw [hol,hll],fun i=>by rw [hll];exact hr i,hd,hin,fun i hi=>?_⟩
 ·obtain ⟨k1,k2⟩:=hst.blk b hb hn'
  exact ⟨k1,k2.trans (hk b fun e=>hn' ⟨_,_,e⟩)⟩
 ·obtain ⟨m1,m2⟩:=hgh i hi
  refine ⟨?_,m2⟩
  rw [hat] at m1 ⊢
  split at m1
  ·cases m1
  ·rename_i hi'
   rw [if_neg hi'];exact m1
theorem ZbY {d k:Nat} : ∀ (aZ:List AP) (xs:List AV),(∀ x∈ZdT aZ xs,¬ Jm x d k)→∀ x∈xs,¬ Jm x d k
 | [], xs, h => fun x hx => h x (by cases xs <;> exact hx)
 | _ :: _, [], _ => fun _ hx => by cases hx
 | a :: aZ, y :: ys, h => fun x hx => by
  rcases List.mem_cons.1 hx with rfl | hx
  ·rcases W9 a x with e | ⟨_,_,rfl,_⟩
   ·have:=h (Zgk a x) (List.mem_cons_self ..)
    rwa [e] at this
   ·rintro (h | ⟨_,h⟩)<;>cases h
  ·exact ZbY aZ ys (fun z hz=>h z (List.mem_cons_of_mem _ hz)) x hx
theorem JE.freeze {P:Program} {f:FuncId} {res:AV} {outs:List AV} : ∀ (aZ:List AP) (xs pre:List AV),JE P f (pre++ZdT aZ xs) res outs→(∀ x∈pre++ZdT aZ xs,∀ d k,¬ Jm x d k)→JE P f (pre++xs) res outs
 | [], xs, pre, h, _ => by cases xs <;> exact h
 | _ :: _, [], pre, h, _ => h
 | a :: aZ, x :: xs, pre, h, hn => by
  have h1:=JE.freeze aZ xs (pre++[Zgk a x]) (by simpa [ZdT] using h) (by simpa [ZdT] using hn)
  rw [List.append_assoc,List.singleton_append] at h1
  rcases W9 a x with e | ⟨e,ys,rfl,e'⟩
  ·rwa [e] at h1
  ·rw [e'] at h1
   refine h1.freeze1 fun y hy d k=>?_
   rcases List.mem_append.1 hy with hy | hy
   ·exact hn y (List.mem_append_left _ hy) d k
   ·exact ZbY aZ xs (fun z hz=>hn z (List.mem_append_right _ (List.mem_cons_of_mem _ hz)) d k) y hy
theorem Zio {P:Program} {a:AP} {x:AV} {vs:List V} (h:ZnU P a x=some vs) (d k:Nat):¬ Jm x d k:=by
 rintro (rfl | ⟨_,rfl⟩)<;>cases a<;>simp [ZnU,ZlW] at h
 all_goals (rename_i s;cases s<;>simp [ZlW] at h)
theorem ZbC {P:Program} : ∀ (aZ:List AP) (xs:List AV) (vs:List V),Za0 P aZ xs=some vs→∀ x∈xs,∀ d k,¬ Jm x d k
 | _, [], _, _ => fun _ hx => by cases hx
 | [], _ :: _, _, h => by simp [Za0] at h
 | a :: aZ, x :: xs, ws, h => by
  simp only [Za0] at h
  split at h
  ·rename_i vs us hv hus
   intro y hy d k
   rcases List.mem_cons.1 hy with rfl | hy
   ·exact Zio hv d k
   ·exact ZbC aZ xs us hus y hy d k
  ·cases h
def Zle {γ:Type} (P:Program) (S:Fun) (aZ:List AV) (k:List V→Option γ):Option γ:=
 match Za0 P S.args (ZdT S.args aZ) with
 | some vs => (S.g vs).bind fun r => k (Za6 _ r)
 | none => none
theorem ZfY {γ:Type} {S:Fun} {aZ:List AV} {k:List V→Option γ} {x:γ} {P:Program} (h:Zle P S aZ k=some x):∃ vs r,Za0 P S.args (ZdT S.args aZ)=some vs∧S.g vs=some r∧k (Za6 _ r)=some x:=by
 unfold Zle at h
 split at h
 ·rename_i vs hvs
  rw [Option.bind_eq_some_iff] at h
  obtain ⟨r,h1,h2⟩:=h
  exact ⟨vs,r,hvs,h1,h2⟩
 ·cases h
def Znt (s:Sh) (x:SC) (m:Nat):Bool:=
 match s,x with
 | .int k, .int k' (.var a) => decide (k' = k) && decide (a = m)
 | .bool, .bool (.var a) => decide (a = m)
 | .str, .str (.var a) => decide (a = m)
 | .slice s, .slice false s' (.var a) => decide (s' = s) && decide (a = m)
 | _, _ => false
def Zf4:List Sh→List SC→Nat→Bool
 | [], [], _ => true
 | s :: ss, c :: cs, m => Znt s c m && Zf4 ss cs (m + 1)
 | _, _, _ => false
def ZoD (r:RSh) (x:TC) (m:Nat):Bool:=
 match r,x with
 | .c s, .c x => Znt s x m
 | .c (.own x e), .own x' e' (.var a) => (decide (e' = e) && decide (a = m)) && (x' == x)
 | .agg l, .agg cs => Zf4 l cs m
 | _, _ => false
def ZgF:List RSh→List TC→Nat→Bool
 | [], [], _ => true
 | r :: rs, x :: xs, m => ZoD r x m && ZgF rs xs (m + r.sh.length)
 | _, _, _ => false
def ZoL:SV→Option TC
 | .c x => some (.c x)
 | .agg cs => some (.agg cs)
 | .own x e l => some (.own x e l)
 | _ => none
def Zpz (s:Sh) (x:BC) (m:Nat):Bool:=
 match s,x with
 | s, .c x => Znt s x m
 | .own x e, .own x' e' (.var a) => (decide (e' = e) && decide (a = m)) && (x' == x)
 | _, _ => false
def Zdr:List Sh→List BC→Nat→Bool
 | [], [], _ => true
 | s :: ss, c :: cs, m => Zpz s c m && Zdr ss cs (m + 1)
 | _, _, _ => false
def Zpl (rs:List RSh) (x:SV) (m:Nat):Bool:=
 match rs with
 | [r] => match r, x with | .box l, .box cs => Zdr l cs m | _, _ => match ZoL x with | some y => ZoD r y m | none => false
 | rs => match x with | .tuple vs => ZgF rs vs m | _ => false
def KZ:List AP→List SV→Nat→Bool
 | [], [], _ => true
 | .box l :: r, .box cs :: xs, m => Zdr l cs m && KZ r xs (m + l.length)
 | .gbox l :: r, .gbox cs :: xs, m => Zdr l cs m && KZ r xs (m + l.length)
 | .c _ :: r, .dead :: xs, m => KZ r xs m
 | .agg _ :: r, .dead :: xs, m => KZ r xs m
 | .clo _ _ :: r, .dead :: xs, m => KZ r xs m
 | .dead :: r, .dead :: xs, m => KZ r xs m
 | _, _, _ => false
section
variable {ρ:Nat→V} {n:Nat} {us:List V}
theorem Wh (j:Nat) (h:j < us.length):bind ρ n us (n+j)=vAt us j:=by
 unfold bind vAt
 rw [if_neg (by omega),show n+j-n=j by omega,List.getElem?_eq_getElem h]
 rfl
theorem ZcD {s:Sh} {x:SC} {j:Nat} (h:Znt s x (n+j)=true) (hj:j < us.length):x.den (bind ρ n us)=YI s (vAt us j):=by
 unfold Znt at h
 split at h
 ·simp only [Bool.and_eq_true,decide_eq_true_eq] at h
  obtain ⟨rfl,rfl⟩:=h
  simp only [SC.den,IE.den,Wh j hj,YI]
 ·simp only [decide_eq_true_eq] at h
  subst h
  simp only [SC.den,BE.den,Wh j hj,YI]
 ·simp only [decide_eq_true_eq] at h
  subst h
  simp only [SC.den,SE.den,Wh j hj,YI]
 ·simp only [Bool.and_eq_true,decide_eq_true_eq] at h
  obtain ⟨rfl,rfl⟩:=h
  simp only [SC.den,LE.den,Wh j hj,YI]
 ·cases h
theorem ZdK:∀ (l:List Sh) (cs:List SC) (j:Nat),Zf4 l cs (n+j)=true→j+l.length≤us.length→cs.map (SC.den (bind ρ n us))=Z3 l us j
 | [], [], _, _, _ => rfl
 | [], _ :: _, _, h, _ => by simp [Zf4] at h
 | _ :: _, [], _, h, _ => by simp [Zf4] at h
 | s :: ss, c :: cs, j, h, hl => by
  simp only [Zf4,Bool.and_eq_true] at h
  simp only [List.length_cons] at hl
  rw [List.map_cons,Z3,ZcD h.1 (by omega),ZdK ss cs (j+1) (by rw [← Nat.add_assoc];exact h.2) (by omega)]
theorem ZfU {r:RSh} {x:TC} {j:Nat} (h:ZoD r x (n+j)=true) (hj:j+r.sh.length≤us.length):x.den (bind ρ n us)=YW r us j:=by
 unfold ZoD at h
 split at h
 ·exact ZcD h (by simp [RSh.sh] at hj;omega)
 ·simp only [Bool.and_eq_true,decide_eq_true_eq,beq_iff_eq] at h
  obtain ⟨⟨rfl,rfl⟩,rfl⟩:=h
  have hj':j < us.length:=by simp [RSh.sh] at hj;omega
  simp only [TC.den,LE.den,Wh j hj',YW,YI]
 ·simp only [TC.den,YW,ZdK _ _ j h hj]
 ·cases h
theorem Zdu:∀ (rs:List RSh) (xs:List TC) (j:Nat),ZgF rs xs (n+j)=true→j+(rs.flatMap RSh.sh).length≤us.length→xs.map (TC.den (bind ρ n us))=JW rs us j
 | [], [], _, _, _ => rfl
 | [], _ :: _, _, h, _ => by simp [ZgF] at h
 | _ :: _, [], _, h, _ => by simp [ZgF] at h
 | r :: rs, x :: xs, j, h, hl => by
  simp only [ZgF,Bool.and_eq_true] at h
  simp only [List.flatMap_cons,List.length_append] at hl
  rw [List.map_cons,JW,ZfU h.1 (by omega),Zdu rs xs (j+r.sh.length) (by rw [← Nat.add_assoc];exact h.2) (by omega)]
theorem ZeY {x:SV} {y:TC} (h:ZoL x=some y) (ρ:Nat→V):x.den ρ=y.den ρ:=by
 unfold ZoL at h
 split at h<;>simp at h<;>subst h<;>rfl
theorem Zju {s:Sh} {x:BC} {j:Nat} (h:Zpz s x (n+j)=true) (hj:j < us.length):x.den (bind ρ n us)=YI s (vAt us j):=by
 unfold Zpz at h
 split at h
 ·exact ZcD h hj
 ·simp only [Bool.and_eq_true,decide_eq_true_eq,beq_iff_eq] at h
  obtain ⟨⟨rfl,rfl⟩,rfl⟩:=h
  simp only [BC.den,LE.den,Wh j hj,YI]
 ·cases h
theorem VC:∀ (l:List Sh) (cs:List BC) (j:Nat),Zdr l cs (n+j)=true→j+l.length≤us.length→cs.map (BC.den (bind ρ n us))=Z3 l us j
 | [], [], _, _, _ => rfl
 | [], _ :: _, _, h, _ => by simp [Zdr] at h
 | _ :: _, [], _, h, _ => by simp [Zdr] at h
 | s :: ss, c :: cs, j, h, hl => by
  simp only [Zdr,Bool.and_eq_true] at h
  simp only [List.length_cons] at hl
  rw [List.map_cons,Z3,Zju h.1 (by omega),VC ss cs (j+1) (by rw [← Nat.add_assoc];exact h.2) (by omega)]
theorem Zki {rs:List RSh} {x:SV} (h:Zpl rs x n=true) (hl:Zd4 rs≤us.length):x.den (bind ρ n us)=YN rs us 0:=by
 unfold Zpl at h
 split at h
 ·split at h
  ·rename_i l cs
   have h1:cs.map (BC.den (bind ρ n us))=Z3 l us 0:=VC l cs 0 h (by simpa [Zd4,RSh.sh] using hl)
   simp only [SV.den,YN,YW,h1]
  ·split at h
   ·rename_i y hy
    rw [ZeY hy]
    exact ZfU (j:=0) h (by simpa [Zd4] using hl)
   ·cases h
 ·rename_i hne
  split at h
  ·rename_i vs
   have:YN rs us 0 = .tuple (JW rs us 0):=by
    unfold YN
    split
    ·exact (hne _ rfl).elim
    ·rfl
   rw [this]
   simp only [SV.den,Zdu rs vs 0 h (by simpa [Zd4] using hl)]
  ·cases h
theorem YF:∀ (aps:List AP) (xs:List SV) (j:Nat),KZ aps xs (n+j)=true→j+(JY aps).length≤us.length→xs.map (SV.den (bind ρ n us))=Z8 aps us j
 | [], [], _, _, _ => rfl
 | [], _ :: _, _, h, _ => by simp [KZ] at h
 | .box l :: r, x :: xs, j, h, hl => by
  cases x<;>simp [KZ] at h
  rename_i cs
  simp only [JY,List.length_append] at hl
  have h1:cs.map (BC.den (bind ρ n us))=Z3 l us j:=VC l cs j h.1 (by omega)
  simp only [List.map_cons,Z8,SV.den,h1,YF r xs (j+l.length) (by rw [← Nat.add_assoc];exact h.2) (by omega)]
 | .gbox l :: r, x :: xs, j, h, hl => by
  cases x<;>simp [KZ] at h
  rename_i cs
  simp only [JY,List.length_append] at hl
  have h1:cs.map (BC.den (bind ρ n us))=Z3 l us j:=VC l cs j h.1 (by omega)
  simp only [List.map_cons,Z8,SV.den,h1,YF r xs (j+l.length) (by rw [← Nat.add_assoc];exact h.2) (by omega)]
 | .c _ :: r, x :: xs, j, h, hl => by
  cases x<;>simp [KZ] at h
  simp only [JY] at hl
  simp only [List.map_cons,Z8,SV.den,YF r xs j h hl]
 | .agg _ :: r, x :: xs, j, h, hl => by
  cases x<;>simp [KZ] at h
  simp only [JY] at hl
  simp only [List.map_cons,Z8,SV.den,YF r xs j h hl]
 | .clo _ _ :: r, x :: xs, j, h, hl => by
  cases x<;>simp [KZ] at h
  simp only [JY] at hl
  simp only [List.map_cons,Z8,SV.den,YF r xs j h hl]
 | .dead :: r, x :: xs, j, h, hl => by
  cases x<;>simp [KZ] at h
  simp only [JY] at hl
  simp only [List.map_cons,Z8,SV.den,YF r xs j h hl]
 | a :: _, [], _, h, _ => by cases a <;> simp [KZ] at h
end
theorem ZfJ:∀ (l:List Sh) (x:ShsT l),(Za6 l x).length=l.length
 | [], _ => rfl
 | [_], _ => rfl
 | _ :: t :: r, x => by simp [Za6, ZfJ (t :: r) x.2]
def Zos (P:Program) (r:RSh) (x:TC):Option (List VE):=
 match r,x with
 | .c s, .c x => (ZkD s x).map fun v => [v]
 | .c s, .own x e l => (Zad P s x e l).map fun v => [v]
 | .agg l, .agg cs => if l.all Sh.imm = true then ZdQ l cs else none
 | _, _ => none
def ZeI (P:Program):List RSh→List TC→Option (List VE)
 | [], [] => some []
 | r :: rs, x :: xs => match Zos P r x, ZeI P rs xs with | some v, some vs => some (v ++ vs) | _, _ => none
 | _, _ => none
def Zpu (P:Program) (rs:List RSh) (x:SV):Option (List VE):=
 match rs with
 | [r] => match r, x with | .box l, .box cs => ZaZ P l cs | _, _ => match ZoL x with | some y => Zos P r y | none => none
 | rs => match x with | .tuple vs => ZeI P rs vs | _ => none
def KH (P:Program):List AP→List SV→Option (List VE)
 | [], [] => some []
 | .box l :: r, .box cs :: xs => match ZaZ P l cs, KH P r xs with | some v, some vs => some (v ++ vs) | _, _ => none
 | .gbox l :: r, .gbox cs :: xs => match ZaZ P l cs, KH P r xs with | some v, some vs => some (v ++ vs) | _, _ => none
 | .c _ :: r, .dead :: xs => KH P r xs
 | .agg _ :: r, .dead :: xs => KH P r xs
 | .clo _ _ :: r, .dead :: xs => KH P r xs
 | .dead :: r, .dead :: xs => KH P r xs
 | _, _ => none
def ZeG (P:Program) (aps:List AP) (rs:List RSh) (x:SV) (os:List SV):Option (List VE):=
 match Zpu P rs x,KH P aps os with
 | some vs, some us => some (vs ++ us)
 | _, _ => none
section
variable {P:Program} {ρ:Nat→V}
theorem Ziu {r:RSh} {x:TC} {vs:List VE} (h:Zos P r x=some vs):vs.length=r.sh.length∧∀ pre post:List V,Za8 P (x.den ρ) (YW r (pre++vs.map (VE.den ρ)++post) pre.length):=by
 unfold Zos at h
 split at h
 ·cases hd:ZkD _ _ with
  | none => rw [hd] at h; cases h
  | some v =>
   rw [hd] at h
   simp only [Option.map_some,Option.some.injEq] at h
   subst h
   refine ⟨rfl,fun pre post=>?_⟩
   simp only [YW,List.map_cons,List.map_nil,List.append_assoc,List.cons_append,List.nil_append,Ky]
   exact .cell (Zcw hd)
 ·cases hd:Zad P _ _ _ _ with
  | none => rw [hd] at h; cases h
  | some v =>
   rw [hd] at h
   simp only [Option.map_some,Option.some.injEq] at h
   subst h
   refine ⟨rfl,fun pre post=>?_⟩
   simp only [YW,List.map_cons,List.map_nil,List.append_assoc,List.cons_append,List.nil_append,Ky]
   exact .cell (ZaK hd)
 ·split at h
  ·rename_i hi
   obtain ⟨h1,h2,h3⟩:=ZcH (P:=P) (ρ:=ρ) _ _ _ h
   exact ⟨h1,fun pre post=>.agg (by rw [List.length_map,h2,Jj]) (Kj _ _ _ hi) (h3 pre post)⟩
  ·cases h
 ·cases h
theorem WC:∀ (rs:List RSh) (us:List V) (j:Nat),(JW rs us j).length=rs.length
 | [], _, _ => rfl
 | _ :: ss, us, j => by simp [JW, WC ss us]
theorem Zfm:∀ (rs:List RSh) (xs:List TC) (vs:List VE),ZeI P rs xs=some vs→vs.length=(rs.flatMap RSh.sh).length∧xs.length=rs.length∧∀ pre post:List V,
  ∀ (i:Nat) (c c':AV),(xs.map (TC.den ρ))[i]? = some c→(JW rs (pre++vs.map (VE.den ρ)++post) pre.length)[i]? = some c'→Za8 P c c'
 | [], [], vs, h => by
  simp only [ZeI,Option.some.injEq] at h
  subst h
  exact ⟨rfl,rfl,fun _ _ i c c' h=>by simp at h⟩
 | [], _ :: _, _, h => by simp [ZeI] at h
 | _ :: _, [], _, h => by simp [ZeI] at h
 | r :: rs, x :: xs, us, h => by
  simp only [ZeI] at h
  split at h
  ·rename_i v vs hv hvs
   simp only [Option.some.injEq] at h
   subst h
   obtain ⟨h1,h2⟩:=Ziu (P:=P) (ρ:=ρ) hv
   obtain ⟨h3,h4,h5⟩:=Zfm rs xs vs hvs
   refine ⟨by simp [h1,h3],by simp [h4],fun pre post i c1 c2 hc1 hc2=>?_⟩
   cases i with
   | zero =>
    simp only [JW,List.map_cons,List.getElem?_cons_zero,Option.some.injEq] at hc1 hc2
    subst hc1
    subst hc2
    have:=h2 pre (vs.map (VE.den ρ)++post)
    simpa [List.append_assoc] using this
   | succ i =>
    have:=h5 (pre++v.map (VE.den ρ)) post i c1 c2 (by simpa using hc1)
    rw [List.length_append,List.length_map,h1] at this
    simp only [JW,List.getElem?_cons_succ] at hc2
    refine this ?_
    simpa [List.append_assoc] using hc2
  ·cases h
theorem ZlG {rs:List RSh} {x:SV} {vs:List VE} (h:Zpu P rs x=some vs):vs.length=Zd4 rs∧∀ post:List V,YH P (x.den ρ) (YN rs (vs.map (VE.den ρ)++post) 0):=by
 unfold Zpu at h
 split at h
 ·split at h
  ·rename_i l cs
   obtain ⟨h1,h2,h3⟩:=KP (P:=P) (ρ:=ρ) _ _ _ h
   refine ⟨by simpa [Zd4,RSh.sh] using h1,fun post=>?_⟩
   have:=h3 [] post
   exact .box (by rw [List.length_map,h2,Jj]) (by simpa [YN,YW] using this)
  ·split at h
   ·rename_i y hy
    obtain ⟨h1,h2⟩:=Ziu (P:=P) (ρ:=ρ) h
    refine ⟨by simpa [Zd4] using h1,fun post=>?_⟩
    rw [ZeY hy]
    have:=h2 [] post
    exact .comp (by simpa [YN] using this)
   ·cases h
 ·rename_i hne
  split at h
  ·rename_i ys
   obtain ⟨h1,h2,h3⟩:=Zfm (P:=P) (ρ:=ρ) _ _ _ h
   refine ⟨h1,fun post=>?_⟩
   have:∀ us,YN rs us 0 = .tuple (JW rs us 0):=by
    intro us
    unfold YN
    split
    ·exact (hne _ rfl).elim
    ·rfl
   rw [this]
   refine .tuple (by rw [List.length_map,h2,WC]) fun i c c' hc hc'=>h3 [] post i c c' hc ?_
   simpa using hc'
  ·cases h
theorem Zat:∀ (aps:List AP) (us:List V) (j:Nat),(Z8 aps us j).length=aps.length
 | [], _, _ => rfl
 | a :: r, us, j => by cases a <;> simp [Z8, Zat r us]
theorem Kk:∀ (aps:List AP) (xs:List SV) (vs:List VE),KH P aps xs=some vs→vs.length=(JY aps).length∧xs.length=aps.length∧∀ pre post:List V,
  ∀ (i:Nat) (c c':AV),(xs.map (SV.den ρ))[i]? = some c→(Z8 aps (pre++vs.map (VE.den ρ)++post) pre.length)[i]? = some c'→YH P c c'
 | [], [], vs, h => by
  simp only [KH,Option.some.injEq] at h
  subst h
  exact ⟨rfl,rfl,fun _ _ i c c' h=>by simp at h⟩
 | [], _ :: _, _, h => by simp [KH] at h
 | a :: _, [], _, h => by cases a <;> simp [KH] at h
 | .box l :: r, x :: xs, us, h => by
  cases x<;>simp only [KH,reduceCtorEq] at h
  split at h
  ·rename_i cs v vs hv hvs
   simp only [Option.some.injEq] at h
   subst h
   obtain ⟨h1,h2,h3⟩:=KP (P:=P) (ρ:=ρ) _ _ _ hv
   obtain ⟨h4,h5,h6⟩:=Kk r xs vs hvs
   refine ⟨by simp [h1,h4,JY],by simp [h5],fun pre post i c1 c2 hc1 hc2=>?_⟩
   cases i with
   | zero =>
    simp only [Z8,List.map_cons,List.getElem?_cons_zero,Option.some.injEq,SV.den] at hc1 hc2
    subst hc1
    subst hc2
    have:=h3 pre (vs.map (VE.den ρ)++post)
    exact .box (by rw [List.length_map,h2,Jj]) (by simpa [List.append_assoc] using this)
   | succ i =>
    have:=h6 (pre++v.map (VE.den ρ)) post i c1 c2 (by simpa using hc1)
    rw [List.length_append,List.length_map,h1] at this
    simp only [Z8,List.getElem?_cons_succ] at hc2
    refine this ?_
    simpa [List.append_assoc] using hc2
  ·cases h
 | .gbox l :: r, x :: xs, us, h => by
  cases x<;>simp only [KH,reduceCtorEq] at h
  split at h
  ·rename_i cs v vs hv hvs
   simp only [Option.some.injEq] at h
   subst h
   obtain ⟨h1,h2,h3⟩:=KP (P:=P) (ρ:=ρ) _ _ _ hv
   obtain ⟨h4,h5,h6⟩:=Kk r xs vs hvs
   refine ⟨by simp [h1,h4,JY],by simp [h5],fun pre post i c1 c2 hc1 hc2=>?_⟩
   cases i with
   | zero =>
    simp only [Z8,List.map_cons,List.getElem?_cons_zero,Option.some.injEq,SV.den] at hc1 hc2
    subst hc1
    subst hc2
    have:=h3 pre (vs.map (VE.den ρ)++post)
    exact .gbox (by rw [List.length_map,h2,Jj]) (by simpa [List.append_assoc] using this)
   | succ i =>
    have:=h6 (pre++v.map (VE.den ρ)) post i c1 c2 (by simpa using hc1)
    rw [List.length_append,List.length_map,h1] at this
    simp only [Z8,List.getElem?_cons_succ] at hc2
    refine this ?_
    simpa [List.append_assoc] using hc2
  ·cases h
 | .c s :: r, x :: xs, us, h => by
  cases x<;>simp only [KH,reduceCtorEq] at h
  exact retOs_dead (a:=.c s) r xs us (Kk r xs us h) (fun _ _=>rfl) rfl
 | .agg l :: r, x :: xs, us, h => by
  cases x<;>simp only [KH,reduceCtorEq] at h
  exact retOs_dead (a:=.agg l) r xs us (Kk r xs us h) (fun _ _=>rfl) rfl
 | .clo g ds :: r, x :: xs, us, h => by
  cases x<;>simp only [KH,reduceCtorEq] at h
  exact retOs_dead (a:=.clo g ds) r xs us (Kk r xs us h) (fun _ _=>rfl) rfl
 | .dead :: r, x :: xs, us, h => by
  cases x<;>simp only [KH,reduceCtorEq] at h
  exact retOs_dead (a:=.dead) r xs us (Kk r xs us h) (fun _ _=>rfl) rfl
where
 retOs_dead {a:AP} (r:List AP) (xs:List SV) (us:List VE) (h:us.length=(JY r).length∧xs.length=r.length∧∀ pre post:List V,
   ∀ (i:Nat) (c c':AV),(xs.map (SV.den ρ))[i]? = some c→(Z8 r (pre++us.map (VE.den ρ)++post) pre.length)[i]? = some c'→YH P c c')
   (ha:∀ vs j,Z8 (a::r) vs j = .dead::Z8 r vs j) (hs:JY (a::r)=JY r):us.length=(JY (a::r)).length∧(SV.dead::xs).length=(a::r).length∧∀ pre post:List V,
   ∀ (i:Nat) (c c':AV),((SV.dead::xs).map (SV.den ρ))[i]? = some c→(Z8 (a::r) (pre++us.map (VE.den ρ)++post) pre.length)[i]? = some c'→YH P c c':=by
  obtain ⟨h4,h5,h6⟩:=h
  refine ⟨by rw [hs];exact h4,by simp [h5],fun pre post i c1 c2 hc1 hc2=>?_⟩
  rw [ha] at hc2
  cases i with
  | zero =>
   simp only [List.map_cons,List.getElem?_cons_zero,Option.some.injEq] at hc1 hc2
   subst hc2
   exact .dead
  | succ i => exact h6 pre post i c1 c2 (by simpa using hc1) (by simpa using hc2)
theorem ZfZ {aps:List AP} {rs:List RSh} {x:SV} {os:List SV} {vs:List VE} (h:ZeG P aps rs x os=some vs) :
  Va P (os.map (SV.den ρ)++[x.den ρ]) (Z8 aps (vs.map (VE.den ρ)) (Zd4 rs)++[YN rs (vs.map (VE.den ρ)) 0]):=by
 unfold ZeG at h
 split at h
 ·rename_i a b ha hb
  simp only [Option.some.injEq] at h
  subst h
  obtain ⟨h1,h2⟩:=ZlG (ρ:=ρ) ha
  obtain ⟨h3,h4,h5⟩:=Kk (P:=P) (ρ:=ρ) _ _ _ hb
  have hlo:(os.map (SV.den ρ)).length=(Z8 aps ((a++b).map (VE.den ρ)) (Zd4 rs)).length:=by rw [List.length_map,h4,Zat]
  refine ⟨by simp only [List.length_append,hlo,List.length_cons,List.length_nil],fun i c c' hc hc'=>?_⟩
  by_cases hi:i < (os.map (SV.den ρ)).length
  ·rw [List.getElem?_append_left hi] at hc
   rw [List.getElem?_append_left (by rw [← hlo];exact hi)] at hc'
   have:=h5 (a.map (VE.den ρ)) [] i c c' hc
   rw [List.length_map,h1] at this
   exact .inl (this (by simpa using hc'))
  ·rw [List.getElem?_append_right (by omega)] at hc
   rw [List.getElem?_append_right (by rw [← hlo];omega),← hlo] at hc'
   have h0:i-(os.map (SV.den ρ)).length=0:=by
    have:=(List.getElem?_eq_some_iff.1 hc).1
    simp only [List.length_cons,List.length_nil] at this
    omega
   rw [h0] at hc hc'
   simp only [List.getElem?_cons_zero,Option.some.injEq] at hc hc'
   subst hc
   subst hc'
   rw [List.map_append]
   exact .inl (h2 _)
 ·cases h
end
def Zke {γ:Type} (A:Nat→List V→Option γ) (n:Nat) (B:List V→Option γ):Nat→List V→Option γ:=fun i vs=>if i=n then B vs else A i vs
noncomputable def STree.run (P:Program) (Φ:List (FuncId×Fun)) (aps:List AP) (rs:List RSh):STree→(Nat→List V→Option (ShsT (Wi rs aps)))→(Nat→V)→Option (ShsT (Wi rs aps))
 | .stuck _, _, _ => none
 | .branch b t e, A, ρ => if b.den ρ = true then t.run P Φ aps rs A ρ else e.run P Φ aps rs A ρ
 | .req p t, A, ρ => @Zi _ (p.den ρ) (p.decDen ρ) (t.run P Φ aps rs A ρ)
 | .elem l i sh n t, A, ρ => Zj (l.den ρ) (i.den ρ) sh fun r => t.run P Φ aps rs A (bind ρ n (Za6 sh r))
 | .nilq l n t, A, ρ => @ZlF _ (decS _) (l.den ρ) fun b => t.run P Φ aps rs A (bind ρ n [.b b])
 | .call f args res outs n _ t, A, ρ =>
  match ZhM Φ f (args.filterMap SV.sig) with
  | some S => if Zpl S.res res n = true ∧ KZ S.args outs (n + Zd4 S.res) = true ∧ ZaW S.args = true then Zle P S (args.map (SV.den ρ)) fun us => t.run P Φ aps rs A (bind ρ n us) else none
  | none => none
 | .loop lv init n t, A, ρ => Zbh (fun rec vs => t.run P Φ aps rs (Zke A lv rec) (bind Zc9 n vs)) ZZ (init.map (VE.den ρ))
 | .again lv vals, A, ρ => A lv (vals.map (VE.den ρ))
 | .ret res outs, _, ρ => match ZeG P aps rs res outs with | some vs => ZkC _ (vs.map (VE.den ρ)) | none => none
theorem Zpw {p:Nat→Prop} (h:∃ k,p k):∃ k,p k∧∀ j,j < k→¬ p j:=by
 obtain ⟨k,hk⟩:=h
 induction k using Nat.strongRecOn with
 | _ k ih =>
  by_cases hj:∃ j,j < k∧p j
  ·obtain ⟨j,h1,h2⟩:=hj
   exact ih j h1 h2
  ·exact ⟨k,hk,fun j h1 h2=>hj ⟨j,h1,h2⟩⟩
section
variable {P:Program} {Φ:List (FuncId×Fun)} {aps:List AP} {rs:List RSh}
theorem WB (hΦ:Zie P Φ) {r:ShsT (Wi rs aps)} {R:AV→List AV→Prop} (hR:∀ x os,Va P (os++[x]) (Z8 aps (Za6 _ r) (Zd4 rs)++[YN rs (Za6 _ r) 0])→R x os) :
  ∀ (t:STree) (A':Nat→List V→Option (ShsT (Wi rs aps))) (A:Nat→List V→Prop) (ρ:Nat→V),(∀ lv vs,A' lv vs=some r→A lv vs)→t.run P Φ aps rs A' ρ=some r→t.wp P R A ρ
 | .stuck _, _, _, _, _, h => by simp [STree.run] at h
 | .branch b t e, A', A, ρ, hA, h => by
  simp only [STree.run] at h
  refine ⟨fun hb=>?_,fun hb=>?_⟩
  ·rw [if_pos hb] at h
   exact WB hΦ hR t A' A ρ hA h
  ·rw [if_neg (by rw [hb];exact Bool.false_ne_true)] at h
   exact WB hΦ hR e A' A ρ hA h
 | .req p t, A', A, ρ, hA, h => by
  obtain ⟨h1,h2⟩:=ZcT (show @Zi _ (p.den ρ) (p.decDen ρ) (t.run P Φ aps rs A' ρ)=some r from h)
  exact ⟨h1,WB hΦ hR t A' A ρ hA h2⟩
 | .elem l i sh n t, A', A, ρ, hA, h => by
  obtain ⟨h0,cs,x,h1,h2,h3⟩:=ZgN (show Zj (l.den ρ) (i.den ρ) sh (fun r=>t.run P Φ aps rs A' (bind ρ n (Za6 sh r)))=some r from h)
  refine ⟨Za6 sh x,h0,?_,WB hΦ hR t A' A _ hA h3⟩
  rw [h1,ZfH sh cs x n _ h2 (Zfw.bind ρ n _)]
 | .nilq l n t, A', A, ρ, hA, h => fun b hb => WB hΦ hR t A' A _ hA (Zis (show @ZlF _ (decS _) (l.den ρ) (fun b => t.run P Φ aps rs A' (bind ρ n [.b b])) = some r from h) b hb)
 | .call f args res outs n sh t, A', A, ρ, hA, h => by
  simp only [STree.run] at h
  split at h
  ·rename_i S hS
   split at h
   ·rename_i hfit
    obtain ⟨vs,x,h1,h2,h3⟩:=ZfY h
    have hlen:=ZfJ _ x
    have hl2:(Wi S.res S.args).length=Zd4 S.res+(JY S.args).length:=by simp [Wi,Zd4]
    refine ⟨Za6 _ x,?_,WB hΦ hR t A' A _ hA h3⟩
    rw [Zki hfit.1 (by omega),YF S.args outs (Zd4 S.res) hfit.2.1 (by omega)]
    exact JE.freeze S.args _ [] ((ZeT hΦ hS vs x h2).stronger (Zd8 hfit.2.2 h1)) (ZbC _ _ _ h1)
   ·cases h
  ·cases h
 | .loop lv init n t, A', A, ρ, hA, h => by
  let F:=fun (rec:List V→Option (ShsT (Wi rs aps))) vs=>t.run P Φ aps rs (Zke A' lv rec) (bind Zc9 n vs)
  have hF:Zbh F ZZ (init.map (VE.den ρ))=some r:=h
  have hm:∀ vs,∃ m:Nat,(∃ k,Zbh F k vs=some r)→Zbh F m vs=some r∧∀ j,Zbh F j vs=some r→m≤j:=by
   intro vs
   by_cases hk:∃ k,Zbh F k vs=some r
   ·obtain ⟨m,h1,h2⟩:=Zpw hk
    exact ⟨m,fun _=>⟨h1,fun j hj=>Nat.le_of_not_lt fun hlt=>h2 j hlt hj⟩⟩
   ·exact ⟨0,fun h=>(hk h).elim⟩
  obtain ⟨m,hm⟩:=Classical.axiomOfChoice hm
  refine ⟨fun vs=>∃ k,Zbh F k vs=some r,m,⟨ZZ,hF⟩,fun vs _ hk=>?_⟩
  obtain ⟨h1,h2⟩:=hm vs hk
  cases hmv:m vs with
  | zero => rw [hmv] at h1; cases h1
  | succ j =>
   rw [hmv] at h1
   refine WB hΦ hR t (Zke A' lv (Zbh F j)) _ _ (fun lv' vs' hv=>?_) h1
   unfold Zke at hv
   unfold Zn7
   split at hv
   ·rename_i he
    rw [if_pos he]
    refine ⟨⟨j,hv⟩,?_⟩
    have:=(hm vs' ⟨j,hv⟩).2 j hv
    omega
   ·rename_i he
    rw [if_neg he]
    exact hA lv' vs' hv
 | .again lv vals, A', A, ρ, hA, h => hA lv _ h
 | .ret res outs, A', A, ρ, hA, h => by
  simp only [STree.run] at h
  split at h
  ·rename_i vs hvs
   refine hR _ _ ?_
   rw [Zdf _ _ _ h]
   exact ZfZ hvs
  ·cases h
end
end Go.AM
end

section
namespace Go.AM
def TyR (P:Program):Nat→TypeId→List AV→Prop
 | 0, _, _ => False
 | d + 1, T, cs =>
  match P.underlying T with
  | some (.int k) => ∃ z, cs = [.val (.int k z)] ∧ (Lit.int k z).wf = true
  | some .bool => ∃ b, cs = [.val (.bool b)]
  | some .string => ∃ s, cs = [.val (.string s)]
  | some (.slice e) => ∃ xs : List (List AV), cs = [.slice false (P.cellsOf e) xs] ∧ xs.length ≤ maxLen ∧ ∀ x ∈ xs, TyR P d e x
  | some (.struct fs) => ∃ parts : List (List AV), cs = parts.flatten ∧ parts.length = fs.size ∧ ∀ (i : Nat) (f : Field) (p : List AV), fs[i]? = some f → parts[i]? = some p → TyR P d f.type p
  | _ => False
def WN (P:Program):Nat→TypeId→Bool
 | 0, _ => false
 | d + 1, T =>
  match P.underlying T with
  | some (.int _) => true
  | some .bool => true
  | some .string => true
  | some (.slice e) => WN P d e && decide (0 < P.cellsOf e)
  | some (.struct fs) => (fs.toList.all fun f => WN P d f.type) && decide (P.cellsOf T = (fs.toList.map fun f => P.cellsOf f.type).sum) &&
    (fs.toList.zipIdx.all fun p=>decide (p.1.offset=((fs.toList.take p.2).map fun f=>P.cellsOf f.type).sum))
  | _ => false
def Km (w:World):Nat→Nat:=fun b=>match w.heap[b]? with | some (.cells c _ _)=>c.size | _=>0
theorem ZhC {w:World} {b o:Nat} {u:Value} (h:w.cell? ⟨b,o,none⟩=some u):o < Km w b:=by
 unfold World.cell? at h
 unfold Km
 split at h
 ·rename_i c t fr hc
  have h':c[o]? = some u:=by simpa using h
  have hc':w.heap[b]? = some (.cells c t fr):=hc
  rw [hc']
  exact (Array.getElem?_eq_some_iff.1 h').1
 ·cases h
theorem J4.flat {w:World} {lim:Nat→Nat} : ∀ (aZ:List (List AV)) (us:List (List Value)),aZ.length=us.length→(∀ (i:Nat) (a:List AV) (u:List Value),aZ[i]? = some a→us[i]? = some u→J4 w lim a u)→J4 w lim aZ.flatten us.flatten
 | [], [], _, _ => J4.nil w lim
 | [], _ :: _, h, _ => by simp at h
 | _ :: _, [], h, _ => by simp at h
 | a :: aZ, u :: us, h, hr => by
  have h1:=hr 0 a u rfl rfl
  have h2:=J4.flat aZ us (by simpa using h) fun i a' u' ha hu=>hr (i+1) a' u' (by simpa using ha) (by simpa using hu)
  refine ⟨by simp [h1.1,h2.1],fun c hc=>?_,fun i c v hc hv=>?_⟩
  ·rw [List.flatten_cons,List.mem_append] at hc
   rcases hc with hc | hc
   ·exact h1.2.1 c hc
   ·exact h2.2.1 c hc
  ·rw [List.flatten_cons] at hc hv
   by_cases hi:i < a.length
   ·rw [List.getElem?_append_left hi] at hc
    rw [List.getElem?_append_left (by rw [← h1.1];exact hi)] at hv
    exact h1.2.2 i c v hc hv
   ·rw [List.getElem?_append_right (by omega)] at hc
    rw [List.getElem?_append_right (by rw [← h1.1];omega),← h1.1] at hv
    exact h2.2.2 _ c v hc hv
theorem ZkG {α:Type} : ∀ (ns:List Nat) (cs:List α),cs.length=ns.sum→∃ ps:List (List α),ps.length=ns.length∧ps.flatten=cs∧∀ (i:Nat) (n:Nat),ns[i]? = some n→ps[i]? = some ((cs.drop (ns.take i).sum).take n)
 | [], cs, h => ⟨[], rfl, by simp at h; simp [h], by simp⟩
 | n :: ns, cs, h => by
  obtain ⟨ps,h1,h2,h3⟩:=ZkG ns (cs.drop n) (by simp only [List.sum_cons] at h;simp;omega)
  refine ⟨cs.take n::ps,by simp [h1],by rw [List.flatten_cons,h2,List.take_append_drop],fun i m hi=>?_⟩
  cases i with
  | zero => simp at hi; subst hi; simp
  | succ i =>
   have:=h3 i m (by simpa using hi)
   simp only [List.getElem?_cons_succ,this,List.take_succ_cons,List.sum_cons,List.drop_drop]
theorem Vj {β:Type} {Q:Nat→β→Prop} : ∀ (n:Nat),(∀ i,i < n→∃ b,Q i b)→∃ l:List β,l.length=n∧∀ (i:Nat) (b:β),l[i]? = some b→Q i b
 | 0, _ => ⟨[], rfl, by simp⟩
 | n + 1, h => by
  obtain ⟨l,h1,h2⟩:=Vj n fun i hi=>h i (by omega)
  obtain ⟨b,hb⟩:=h n (by omega)
  refine ⟨l++[b],by simp [h1],fun i c hc=>?_⟩
  by_cases hi:i < l.length
  ·rw [List.getElem?_append_left hi] at hc
   exact h2 i c hc
  ·rw [List.getElem?_append_right (by omega)] at hc
   have h0:i-l.length=0:=by
    have:=(List.getElem?_eq_some_iff.1 hc).1
    simp at this
    omega
   rw [h0] at hc
   simp only [List.getElem?_cons_zero,Option.some.injEq] at hc
   subst hc
   have:i=n:=by omega
   rw [this]
   exact hb
theorem ZbF {s:Nat} {cell:Nat→Option Value} : ∀ (l:List (List Value)) (o:Nat),(∀ (i:Nat) (us:List Value),l[i]? = some us→us.length=s∧∀ (k:Nat) (u:Value),us[k]? = some u→cell (o+i*s+k)=some u)→
  ∀ (j:Nat) (u:Value),l.flatten[j]? = some u→cell (o+j)=some u
 | [], o, _, j, u, h => by simp at h
 | us :: l, o, h, j, u, hj => by
  obtain ⟨h1,h2⟩:=h 0 us rfl
  rw [List.flatten_cons] at hj
  by_cases hlt:j < us.length
  ·rw [List.getElem?_append_left hlt] at hj
   have:=h2 j u hj
   simpa using this
  ·rw [List.getElem?_append_right (by omega)] at hj
   have:=ZbF l (o+s) (fun i us' hi=>by
    obtain ⟨g1,g2⟩:=h (i+1) us' (by simpa using hi)
    refine ⟨g1,fun k u' hk=>?_⟩
    have:=g2 k u' hk
    rw [Nat.add_mul,Nat.one_mul] at this
    rw [show o+s+i*s+k=o+(i*s+s)+k by omega]
    exact this) (j-us.length) u hj
   rw [show o+s+(j-us.length)=o+j by omega] at this
   exact this
theorem ZgK {H:Type} {f:Func} {s:ChangeSpec} {apart fresh handsOn again:Bool} {W W':World} {args:Array Value} {v:Value} {ds gs:List (DataW H)} {before pa:List MemPlace} {P:Program} {enc:TypeId×Value→H}
  (hW:DataW.Whole enc P f.params.toList s.vars apart W args.toList ds gs before)
  (hres:∀ (b:Nat) (sp:Nat→Bool) (hd:Bool),DataW.TrodAll enc P W' b sp hd f.resultTypes.toList (v.resultList f.resultTypes.size) (s.fn H (ds++gs)).results [])
  (hargs:∀ sp:Nat→Bool,(∀ p∈before,sp p.block=true)→DataW.TrodAll enc P W' 0 sp true f.params.toList args.toList (s.fn H (ds++gs)).args pa)
  (hvars:∀ sp:Nat→Bool,(∀ p∈before,sp p.block=true)→DataW.TrodVars enc P W' sp s.vars (s.fn H (ds++gs)).vars [])
  (hps:before=pa++[]) (hk:W.keptBut W' (·∈before)) (hfz:∀ a:Addr,a.block < W.heap.size→W'.frozen? a=W.frozen? a)
  (hok:∀ (j:Nat) (t:TypeId) (r:Value),f.resultTypes[j]? = some t→(v.resultList f.resultTypes.size)[j]? = some r→Value.okWide P W' .any 0 t r) :
  s.post enc P f apart fresh handsOn again W args v W':=by
 have hin:∀ p∈before,p.block < W.heap.size:=fun p hp=>hW.lt p hp
 have hdec:∀ p∈before,(fun b=>decide (b < W.heap.size)) p.block=true:=fun p hp=>decide_eq_true (hin p hp)
 refine ⟨ds,gs,before,[],pa,[],hW,hres _ _ _,hargs _ hdec,hvars _ hdec,World.keptBut_mono (fun p hp=>⟨hp,?_⟩) hk,fun _=>?_⟩
 ·refine Or.inr (Or.inl ?_)
  rwa [hps,List.append_nil] at hp
 ·have hWp:=hW
  obtain ⟨_,_,_,_,_,hz,hn⟩:=hWp
  refine ⟨hok,_,_,([]++pa)++[],⟨[]++pa,[],ChangeShapes.trodAll_append (hargs _ fun _ _=>rfl) (hres _ _ _),hvars _ fun _ _=>rfl,rfl,?_,?_⟩,?_⟩
  ·intro b off hp
   have hmem:MemPlace.cell b off∈before:=by rw [hps];simpa using hp
   rw [hfz _ (hin _ hmem)]
   exact hz b off hmem
  ·intro ha
   have h1:=hn ha
   rw [hps] at h1
   simpa using h1
  ·intro p hp _
   rw [hps]
   simpa using hp
section
variable {P:Program} {H:Type} {enc:TypeId×Value→H} {w:World} {sp:Nat→Bool} {held:Bool}
theorem ZeH:∀ (d n:Nat) (T:TypeId) (cs:List Value) (x:DataW H×List MemPlace),WN P d T=true→DataW.trod enc P w 0 sp held n T cs=some x→∃ avs,TyR P d T avs∧J4 w (Km w) avs cs
 | 0, n, T, cs, x, hf, _ => by simp [WN] at hf
 | d + 1, n, T, cs, x, hf, h => by
  simp only [WN] at hf
  split at hf
  ·rename_i k hk
   obtain ⟨z,rfl,_,hw⟩:=DataW.trod_int hk h
   refine ⟨[.val (.int k z)],?_,rfl,by simp [AV.isCell],fun i c u hc hu=>?_⟩
   ·simp only [TyR,hk];exact ⟨z,rfl,hw⟩
   ·cases i with
    | zero => simp at hc hu; subst hc; subst hu; exact .val rfl
    | succ i => simp at hc
  ·rename_i hk
   obtain ⟨b,rfl,_⟩:=DataW.trod_bool hk h
   refine ⟨[.val (.bool b)],?_,rfl,by simp [AV.isCell],fun i c u hc hu=>?_⟩
   ·simp only [TyR,hk];exact ⟨b,rfl⟩
   ·cases i with
    | zero => simp at hc hu; subst hc; subst hu; exact .val rfl
    | succ i => simp at hc
  ·rename_i hk
   obtain ⟨s,rfl,_⟩:=DataW.trod_string hk h
   refine ⟨[.val (.string s)],?_,rfl,by simp [AV.isCell],fun i c u hc hu=>?_⟩
   ·simp only [TyR,hk];exact ⟨s,rfl⟩
   ·cases i with
    | zero => simp at hc hu; subst hc; subst hu; exact .val rfl
    | succ i => simp at hc
  ·rename_i e hk
   simp only [Bool.and_eq_true,decide_eq_true_eq] at hf
   rcases DataW.trod_slice hk h with ⟨rfl,_⟩ | ⟨a,len,cap,VQ,rest,m,_,rfl,_,_,hlc,hcm,hel,hcells,_,_⟩
   ·refine ⟨[.slice false (P.cellsOf e) []],?_,rfl,by simp [AV.isCell],fun i c u hc hu=>?_⟩
    ·simp only [TyR,hk];exact ⟨[],rfl,by simp,by simp⟩
    ·cases i with
     | zero => simp at hc hu; subst hc; subst hu; exact .sliceN
     | succ i => simp at hc
   ·obtain ⟨l,hl1,hl2⟩:=Vj (Q:=fun i (p:List Value×List AV)=>w.cells? 0 (a.add (i*P.cellsOf e)) (P.cellsOf e)=some p.1∧TyR P d e p.2∧J4 w (Km w) p.2 p.1) len fun i hi=>by
     have h1:=hcells i hi
     obtain ⟨y,hy⟩:∃ y,VQ[i]? = some y:=⟨_,List.getElem?_eq_getElem (by omega)⟩
     rw [hy,Option.bind_eq_some_iff] at h1
     obtain ⟨us,h2,h3⟩:=h1
     obtain ⟨avs,h4,h5⟩:=ZeH d m e us y hf.1 h3
     exact ⟨(us,avs),h2,h4,h5⟩
    have hall:∀ p∈l,TyR P d e p.2∧J4 w (Km w) p.2 p.1∧p.1.length=P.cellsOf e:=by
     intro p hp
     obtain ⟨i,hi⟩:=List.mem_iff_getElem?.1 hp
     obtain ⟨g1,g2,g3⟩:=hl2 i p hi
     exact ⟨g2,g3,(World.cells?_some g1).2.1⟩
    refine ⟨[.slice false (P.cellsOf e) (l.map (·.2))],?_,rfl,by simp [AV.isCell],fun i c u hc hu=>?_⟩
    ·simp only [TyR,hk]
     refine ⟨_,rfl,by simp;omega,fun y hy=>?_⟩
     obtain ⟨p,hp,rfl⟩:=List.mem_map.1 hy
     exact (hall p hp).1
    ·cases i with
     | succ i => simp at hc
     | zero =>
      simp only [List.getElem?_cons_zero,Option.some.injEq] at hc hu
      subst hc
      subst hu
      cases l with
      | nil =>
       have:len=0:=by simpa using hl1.symm
       subst this
       exact .sliceE (fun h=>by cases h)
      | cons p l' =>
       have hcell:∀ (j:Nat) (u:Value),((p::l').map (·.1)).flatten[j]? = some u→w.cell? ⟨a.block,a.off+j,none⟩=some u:=by
        refine ZbF (s:=P.cellsOf e) (cell:=fun o=>w.cell? ⟨a.block,o,none⟩) _ a.off fun i us hi=>?_
        rw [List.getElem?_map] at hi
        cases hpi:(p::l')[i]? with
        | none => simp [hpi] at hi
        | some q =>
         simp only [hpi,Option.map_some,Option.some.injEq] at hi
         subst hi
         obtain ⟨g1,_,_⟩:=hl2 i q hpi
         obtain ⟨_,k2,k3⟩:=World.cells?_some g1
         refine ⟨k2,fun k u hu=>?_⟩
         have hk':k < P.cellsOf e:=by rw [← k2];exact (List.getElem?_eq_some_iff.1 hu).1
         have:=k3 k hk'
         rw [hu] at this
         have hblk:((a.add (i*P.cellsOf e)).add k).block=a.block∧((a.add (i*P.cellsOf e)).add k).off=a.off+i*P.cellsOf e+k:=by
          unfold Addr.add
          split<;>split<;>simp_all
         have hspot:((a.add (i*P.cellsOf e)).add k).spot=none:=by
          unfold World.cell? at this
          split at this
          ·split at this
           ·cases this
           ·rename_i hs;simpa using hs
          ·cases this
         have heq:(a.add (i*P.cellsOf e)).add k=⟨a.block,a.off+i*P.cellsOf e+k,none⟩:=by
          rw [← hblk.1,← hblk.2,← hspot]
         rw [heq] at this
         exact this
       have hspot:a.spot=none:=by
        obtain ⟨g1,_,_⟩:=hl2 0 p rfl
        obtain ⟨_,k2,k3⟩:=World.cells?_some g1
        have:=k3 0 hf.2
        obtain ⟨u,hu⟩:∃ u,p.1[0]? = some u:=⟨_,List.getElem?_eq_getElem (by rw [k2];exact hf.2)⟩
        rw [hu] at this
        have ha:(a.add (0*P.cellsOf e)).add 0=a:=by simp [Addr.add]
        rw [ha] at this
        unfold World.cell? at this
        split at this
        ·split at this
         ·cases this
         ·rename_i hs;simpa using hs
        ·cases this
       have ha:a=⟨a.block,a.off,none⟩:=by rw [← hspot]
       have hlen:((p::l').map (·.2)).length=len:=by rw [List.length_map];exact hl1
       rw [ha,← hlen]
       have hrel:J4 w (Km w) ((p::l').map (·.2)).flatten ((p::l').map (·.1)).flatten:=by
        refine J4.flat _ _ (by simp) fun i x us hx hus=>?_
        rw [List.getElem?_map] at hx hus
        cases hpi:(p::l')[i]? with
        | none => simp [hpi] at hx
        | some q =>
         simp only [hpi,Option.map_some,Option.some.injEq] at hx hus
         subst hx
         subst hus
         exact (hl2 i q hpi).2.2
       have hsz:∀ x∈(p::l').map (·.2),x.length=P.cellsOf e:=by
        intro x hx
        obtain ⟨q,hq,rfl⟩:=List.mem_map.1 hx
        obtain ⟨_,g2,g3⟩:=hall q hq
        rw [g2.1,g3]
       refine .sliceC (us:=((p::l').map (·.1)).flatten) hsz (fun x hx=>?_) (fun h=>by cases h) (by rw [hlen];exact hlc) (fun hne=>?_) ?_ hcell hrel.2.2
       ·obtain ⟨q,hq,rfl⟩:=List.mem_map.1 hx
        exact (hall q hq).2.1.2.1
       ·have hpos:0 < (((p::l').map (·.1)).flatten).length:=List.length_pos_iff.2 hne
        have hlast:=hcell ((((p::l').map (·.1)).flatten).length-1) _ (List.getElem?_eq_getElem (by omega))
        have:=ZhC hlast
        omega
       ·rw [← hrel.1,Zv _ _ hsz]
  ·rename_i fs hk
   simp only [Bool.and_eq_true,decide_eq_true_eq,List.all_eq_true] at hf
   obtain ⟨⟨h1,h2⟩,h3⟩:=hf
   obtain ⟨xs,m,_,_,hlen,hxl,hparts⟩:=DataW.trod_struct hk h
   obtain ⟨ps,q1,q2,q3⟩:=ZkG (fs.toList.map fun f=>P.cellsOf f.type) cs (by rw [hlen,h2])
   have hps:ps.length=fs.size:=by rw [q1];simp
   obtain ⟨l,hl1,hl2⟩:=Vj (Q:=fun i (avs:List AV)=>∃ (f:Field) (us:List Value),fs[i]? = some f∧ps[i]? = some us∧TyR P d f.type avs∧J4 w (Km w) avs us) fs.size fun i hi=>by
    have hfi:fs[i]? = some fs[i]:=Array.getElem?_eq_getElem hi
    have hn:(fs.toList.map fun f=>P.cellsOf f.type)[i]? = some (P.cellsOf fs[i].type):=by simp [hi]
    have h4:=q3 i _ hn
    have h5:=hparts i _ hfi
    have hoff:=h3 (fs[i],i) (by rw [List.mem_zipIdx_iff_getElem?];simp [hi])
    simp only at hoff
    rw [hoff,List.map_take] at h5
    obtain ⟨y,hy⟩:∃ y,xs[i]? = some y:=⟨_,List.getElem?_eq_getElem (by omega)⟩
    rw [hy] at h5
    obtain ⟨avs,h6,h7⟩:=ZeH d m _ _ y (h1 fs[i] (by simp)) h5
    exact ⟨avs,fs[i],_,hfi,h4,h6,h7⟩
   refine ⟨l.flatten,?_,?_⟩
   ·simp only [TyR,hk]
    refine ⟨l,rfl,hl1,fun i f p hf hp=>?_⟩
    obtain ⟨f',us,g1,g2,g3,g4⟩:=hl2 i p hp
    rw [hf] at g1
    cases g1
    exact g3
   ·rw [← q2]
    refine J4.flat _ _ (by rw [hl1,hps]) fun i avs us ha hu=>?_
    obtain ⟨f',us',g1,g2,g3,g4⟩:=hl2 i avs ha
    rw [hu] at g2
    cases g2
    exact g4
  ·cases hf
def VW (P:Program) (d:Nat) (T:TypeId) (x:AV):Prop:=
 match P.underlying T with
 | some (.struct _) => ∃ cs, x = .agg cs ∧ TyR P d T cs
 | _ => x.isCell = true ∧ TyR P d T [x]
theorem Zjx {lim:Nat→Nat} {avs:List AV} {v:Value} (h:J4 w lim avs [v]):∃ x,avs = [x]∧x.isCell=true∧Rep w lim x v:=by
 obtain ⟨x,rfl⟩:=List.length_eq_one_iff.1 (by simpa using h.1:avs.length=1)
 exact ⟨x,rfl,h.2.1 x (by simp),h.2.2 0 x v rfl rfl⟩
theorem Zi1 {d:Nat} {T:TypeId} {v:Value} {x:DataW H} {ps:List MemPlace} {r:Reach} {base:Nat} (hf:WN P d T=true) (hok:Value.okWide P w r base T v)
  (h:DataW.Trod enc P w 0 sp held T v x ps):∃ y,VW P d T y∧∀ X σ k,ZV P w (Km w) X σ k y v:=by
 obtain ⟨n,h⟩:=h
 obtain ⟨avs,h1,h2⟩:=ZeH d n T _ _ hf h
 cases d with
 | zero => simp [WN] at hf
 | succ d =>
  have one:v.cells.toList = [v]→(∀ fs,P.underlying T≠some (.struct fs))→∃ y,VW P (d+1) T y∧∀ X σ k,ZV P w (Km w) X σ k y v:=by
   intro hv hns
   rw [hv] at h2
   obtain ⟨y,rfl,h3,h4⟩:=Zjx h2
   refine ⟨y,?_,fun X σ k=>(KW h3 h4).2⟩
   unfold VW
   split
   ·rename_i fs hfs;exact (hns fs hfs).elim
   ·exact ⟨h3,h1⟩
  simp only [WN] at hf
  split at hf
  ·rename_i kd hk
   obtain ⟨z,hz,_⟩:=DataW.trod_int hk h
   refine one ?_ (by rw [hk];simp)
   simp only [Value.okWide,hk,Cell.okWide] at hok
   cases v<;>simp_all [Cell.ok,Value.cells]
  ·rename_i hk
   refine one ?_ (by rw [hk];simp)
   simp only [Value.okWide,hk,Cell.okWide] at hok
   cases v<;>simp_all [Cell.ok,Value.cells]
  ·rename_i hk
   refine one ?_ (by rw [hk];simp)
   simp only [Value.okWide,hk,Cell.okWide] at hok
   cases v<;>simp_all [Cell.ok,Value.cells]
  ·rename_i e hk
   refine one ?_ (by rw [hk];simp)
   simp only [Value.okWide,hk,Cell.okWide] at hok
   cases v<;>simp_all [Cell.ok,Value.cells]
  ·rename_i fs hk
   simp only [Value.okWide,hk] at hok
   obtain ⟨cs,rfl,_,_⟩:=hok
   refine ⟨.agg avs,?_,?_⟩
   ·unfold VW
    simp only [hk]
    exact ⟨avs,rfl,h1⟩
   ·have:cs=cs.toList.toArray:=by simp
    intro X σ k
    show Rep w (Km w) (.agg avs) (.agg cs)
    rw [this]
    exact .agg h2.1 h2.2.1 h2.2.2
  ·cases hf
theorem Zdn {d:Nat} {r:Reach} {base:Nat} : ∀ (ts:List TypeId) (vs:List Value) (ds:List (DataW H)) (ps:List MemPlace),(∀ t∈ts,WN P d t=true)→
  (∀ (j:Nat) (t:TypeId) (v:Value),ts[j]? = some t→vs[j]? = some v→Value.okWide P w r base t v)→DataW.TrodAll enc P w 0 sp held ts vs ds ps→
  vs.length=ts.length∧∃ xs:List AV,xs.length=ts.length∧∀ (i:Nat) (t:TypeId) (x:AV) (v:Value),ts[i]? = some t→xs[i]? = some x→vs[i]? = some v→VW P d t x∧∀ X σ k,ZV P w (Km w) X σ k x v
 | [], [], [], ps, _, _, _ => ⟨rfl, [], rfl, by simp⟩
 | t :: ts, v :: vs, x :: ds, ps, hf, hok, h => by
  obtain ⟨p,q,h1,h2,_⟩:=h
  obtain ⟨y,g1,g2⟩:=Zi1 (hf t (by simp)) (hok 0 t v rfl rfl) h1
  obtain ⟨k1,xs,k2,k3⟩:=Zdn ts vs ds q (fun t ht=>hf t (by simp [ht])) (fun j t' v' ht hv=>hok (j+1) t' v' (by simpa using ht) (by simpa using hv)) h2
  refine ⟨by simp [k1],y::xs,by simp [k2],fun i t' x' v' ht hx hv=>?_⟩
  cases i with
  | zero =>
   simp only [List.getElem?_cons_zero,Option.some.injEq] at ht hx hv
   subst ht
   subst hx
   subst hv
   exact ⟨g1,g2⟩
  | succ i => exact k3 i t' x' v' (by simpa using ht) (by simpa using hx) (by simpa using hv)
 | [], _ :: _, _, _, _, _, h => h.elim
 | [], [], _ :: _, _, _, _, h => h.elim
 | _ :: _, [], _, _, _, _, h => h.elim
 | _ :: _, _ :: _, [], _, _, _, h => h.elim
theorem ZdP {w':World} {sp':Nat→Bool} (hl:laidOutB P=true):∀ (ts:List TypeId) (vs:List Value) (ds:List (DataW H)) (ps:List MemPlace),(∀ t∈ts,t < P.types.size∧P.readableRec t=true)→
  DataW.TrodAll enc P w 0 (fun _=>true) true ts vs ds ps→(∀ p∈ps,w.sameAt w' p)→(∀ p∈ps,sp' p.block=true)→DataW.TrodAll enc P w' 0 sp' true ts vs ds ps
 | [], [], [], _, _, h, _, _ => h
 | t :: ts, v :: vs, x :: ds, ps, ht, h, hs, hp => by
  obtain ⟨p,q,⟨n,h1⟩,h2,rfl⟩:=h
  refine ⟨p,q,⟨n,?_⟩,ZdP hl ts vs ds q (fun t' h'=>ht t' (by simp [h'])) h2 (fun z hz=>hs z (by simp [hz])) (fun z hz=>hp z (by simp [hz])),rfl⟩
  have hr:=(ht t (by simp)).2
  exact DataW.trod_stays (T:=InBook P t) (kids_book hl hr) (fun {t' e} h' hu=>book_sized hr h' hu) (fun h=>by cases h) ⟨(ht t (by simp)).1,book_self t⟩ h1 (fun z hz=>hs z (by simp [hz])) (fun z hz=>hp z (by simp [hz]))
 | [], _ :: _, _, _, _, h, _, _ => h.elim
 | [], [], _ :: _, _, _, h, _, _ => h.elim
 | _ :: _, [], _, _, _, h, _, _ => h.elim
 | _ :: _, _ :: _, [], _, _, h, _, _ => h.elim
theorem Zb7 {fn:Func} {f:FuncId} {s:ChangeSpec} {apart fresh handsOn again:Bool} {tb:TypeId} {d:Nat} (hl:laidOutB P=true) (hpar:∀ t∈fn.params.toList,WN P d t=true∧t < P.types.size∧P.readableRec t=true)
  (hres:fn.resultTypes = #[tb]) (htb:P.underlying tb=some .bool) (hvars:s.vars = []) (hs:∀ ds,ds.length=fn.params.size→s.fn H ds = { results:=[.lit (.bool true)],args:=ds })
  (hcall:∀ xs:List AV,xs.length=fn.params.toList.length→(∀ (i:Nat) (t:TypeId) (x:AV),fn.params.toList[i]? = some t→xs[i]? = some x→VW P d t x)→∃ outs,JE P f xs (B true) outs)
  (W:World) (base:Nat) (args:Array Value) (ds gs:List (DataW H)) (before:List MemPlace)
  (hval:∀ (j:Nat) t v,fn.params[j]? = some t→args[j]? = some v→Value.okWide P W .any base t v) (hW:DataW.Whole enc P fn.params.toList s.vars apart W args.toList ds gs before) :
  Calls P f args W fun e W'=>∃ v,e = .returned v∧s.post enc P fn apart fresh handsOn again W args v W':=by
 have hW':=hW
 obtain ⟨p,q,hA,hV,rfl,_,_⟩:=hW
 rw [hvars] at hV
 obtain ⟨rfl,rfl⟩:=ChangeShapes.trodVars_none hV
 obtain ⟨hlen,xs,hx1,hx2⟩:=Zdn (r:=.any) (base:=base) _ _ _ _ (fun t ht=>(hpar t ht).1) (fun j t v ht hv=>hval j t v (by simpa using ht) (by simpa using hv)) hA
 have hdl:ds.length=fn.params.size:=by
  have:∀ (ts:List TypeId) (vs:List Value) (ds:List (DataW H)) (ps:List MemPlace),DataW.TrodAll enc P W 0 (fun _=>true) true ts vs ds ps→ds.length=ts.length:=by
   intro ts
   induction ts with
   | nil => intro vs ds ps h; cases vs <;> cases ds <;> simp_all [DataW.TrodAll]
   | cons t ts ih =>
    intro vs ds ps h
    cases vs with
    | nil => exact h.elim
    | cons v vs =>
     cases ds with
     | nil => exact h.elim
     | cons x ds => obtain ⟨_, _, _, h2, _⟩ := h; simp [ih _ _ _ h2]
  simpa using this _ _ _ _ hA
 obtain ⟨outs,_,hc⟩:=hcall xs hx1 fun i t x ht hx=>by
  obtain ⟨v,hv⟩:∃ v,args.toList[i]? = some v:=⟨_,List.getElem?_eq_getElem (by rw [hlen];exact (List.getElem?_eq_some_iff.1 ht).1)⟩
  exact (hx2 i t x v ht hx hv).1
 have hng:xs.countP AV.isG=0:=by
  rw [List.countP_eq_zero]
  intro x hx hg
  obtain ⟨i,hi⟩:=List.mem_iff_getElem?.1 hx
  have hlt:=(List.getElem?_eq_some_iff.1 hi).1
  obtain ⟨v,hv⟩:∃ v,args.toList[i]? = some v:=⟨_,List.getElem?_eq_getElem (by omega)⟩
  obtain ⟨t,ht⟩:∃ t,fn.params.toList[i]? = some t:=⟨_,List.getElem?_eq_getElem (by omega)⟩
  have hr:=(hx2 i t x v ht hi hv).2 (fun _ _=>none) (fun _=>.dead) 0
  cases x<;>simp [AV.isG] at hg
  obtain ⟨v',b,_,_,h,_⟩:=hr
  cases h
 have hcalls:=hc W (Km W) (fun _ _=>none) args.toList (by rw [hng,hlen,hx1];exact Nat.le_refl _) (fun i=>by
  cases hxi:xs[i]? with
  | none =>
   have:Z0 xs i = .dead:=by simp [Z0,hxi]
   rw [this]
   trivial
  | some x =>
   have hi:=(List.getElem?_eq_some_iff.1 hxi).1
   obtain ⟨v,hv⟩:∃ v,args.toList[i]? = some v:=⟨_,List.getElem?_eq_getElem (by omega)⟩
   obtain ⟨t,ht⟩:∃ t,fn.params.toList[i]? = some t:=⟨_,List.getElem?_eq_getElem (by omega)⟩
   have h1:Z0 xs i=x:=by simp [Z0,hxi]
   have h2:args.toList.getD i undef=v:=by rw [List.getD_eq_getElem?_getD,hv];rfl
   rw [h1,h2]
   exact (hx2 i t x v ht hxi hv).2 _ _ _) (fun _ _ _ _ _ h=>by cases h) (fun _ _ _ h=>by cases h)
 rw [Array.toArray_toList] at hcalls
 refine hcalls.mono ?_
 rintro e W' ⟨v,lim',X',rfl,hst,hol,hrel,_,_,_⟩
 have hv:v = .bool true:=by
  have h:=hrel xs.length
  have h1:Z0 (outs++[B true]) xs.length=B true:=by
   simp only [Z0]
   rw [List.getElem?_append_right (by omega),hol]
   simp
  have h2:Wd xs.length args.toList v xs.length=v:=if_pos rfl
  rw [h1,h2] at h
  exact Yp h
 subst hv
 have hkept:∀ b,b < W.heap.size→W'.heap[b]? = W.heap[b]?:=fun b hb=>(hst.blk b hb (by rintro ⟨_,_,h⟩;cases h)).1
 have hsame:∀ z∈p++[],W.sameAt W' z:=by
  intro z hz
  have hlt:=hW'.lt z hz
  cases z with
  | cell b off =>
   show W'.cell? ⟨b,off,none⟩=W.cell? ⟨b,off,none⟩
   unfold World.cell?
   rw [hkept b hlt]
  | map b => exact hkept b hlt
 refine ⟨_,rfl,ZgK (pa:=p) hW' (fun b sp hd=>?_) (fun sp hp=>?_) (fun sp _=>?_) rfl ?_ hst.frz ?_⟩
 ·rw [hs _ (by simpa using hdl),hres]
  exact ⟨[],[],⟨1,by simp [DataW.trod,htb,Value.cells]⟩,rfl,rfl⟩
 ·rw [hs _ (by simpa using hdl),List.append_nil]
  exact ZdP hl _ _ _ _ (fun t ht=>(hpar t ht).2) hA (fun z hz=>hsame z (by simpa using hz)) (fun z hz=>hp z (by simpa using hz))
 ·rw [hs _ (by simpa using hdl),hvars]
  rfl
 ·refine ⟨hst.os,hst.output,fun i hi=>?_⟩
  rw [hkept i hi]
  cases W.heap[i]? with
  | none => rfl
  | some o => cases o <;> simp
 ·exact RowKit.ok_one hres rfl (RowKit.okWide_bool_mk htb true)
end
end Go.AM
end

section
namespace Go.AM
open Go
set_option linter.unusedSimpArgs false
set_option linter.unusedVariables false
def blank:Char:=Char.ofNat 32
theorem Zej (r:List Char):wordsSigns (blank::r) = []::wordsSigns r:=by
 show wordsSigns (Char.ofNat 32::r)=_
 rw [wordsSigns]
theorem ZeA (c:Char) (r:List Char) (h:c≠blank):wordsSigns (c::r)=match wordsSigns r with | w::ws=>(c::w)::ws | []=>[[c]]:=by
 rw [wordsSigns]
 ·rfl
 ·exact h
theorem KR (r:List Char):∀ (w:List Char),(w.all fun c=>c != blank)=true→wordsSigns (w++blank::r)=w::wordsSigns r
 | [], _ => Zej r
 | c :: w, h => by
  rw [List.all_cons,Bool.and_eq_true] at h
  rw [List.cons_append,ZeA c _ (by simpa using h.1),KR r w h.2]
theorem ZdD {L:List Char} (h1:((L.take 7).all fun c=>c != blank)=true) (h2:(((L.drop 8).take 64).all fun c=>c != blank)=true) (h3:(((L.drop 73).take 3).all fun c=>c != blank)=true)
  (hL : L = L.take 7 ++ blank :: ((L.drop 8).take 64 ++ blank :: ((L.drop 73).take 3 ++ blank :: L.drop 77))) (hm : ((L.take 7 == "harness".toList || L.take 7 == "ownmain".toList) && isSumSigns ((L.drop 8).take 64)) = true)
  (hc : (L.drop 73).take 3 = "cut".toList) : ∃ ws, behindMainWord (wordsSigns L) = "cut".toList :: ws := by
 refine ⟨wordsSigns (L.drop 77),?_⟩
 have h:wordsSigns L=L.take 7::(L.drop 8).take 64::(L.drop 73).take 3::wordsSigns (L.drop 77):=by
  rw [hL,KR _ _ h1,KR _ _ h2,KR _ _ h3,← hL]
 rw [h,behindMainWord,if_pos hm,hc]
theorem enters_of {P : Program} {ws : List (List Char)} (h : behindMainWord (wordsSigns P.initOrder.toList) = "cut".toList :: ws) (h1 : P.laysLater = false) (h2 : P.bearsReflect = false) (h3 : P.doorFits [] = true) : P.mayEnter = true := by
 unfold Program.mayEnter
 rw [h]
 have hs : stripLifts liftWords ("cut".toList :: ws) = ([], "cut".toList :: ws) := by kernel_rfl
 simp only [hs]
 simp [h1,h2,h3]
theorem lifts_of {P : Program} {ws : List (List Char)} (h : behindMainWord (wordsSigns P.initOrder.toList) = "cut".toList :: ws) : P.headLifts = [] := by
 unfold Program.headLifts
 rw [h]
 have hs : stripLifts liftWords ("cut".toList :: ws) = ([], "cut".toList :: ws) := by kernel_rfl
 simp only [hs]
 simp
theorem final_of {P : Program} {ws : List (List Char)} (h : behindMainWord (wordsSigns P.initOrder.toList) = "cut".toList :: ws) : P.liftsFinal = false := by
 unfold Program.liftsFinal
 rw [lifts_of h,h]
 have hs : ("cut".toList == "carried".toList) = false := by decide +kernel
 simp [hs]
theorem make_of {P : Program} {ws : List (List Char)} (h : behindMainWord (wordsSigns P.initOrder.toList) = "cut".toList :: ws) : P.make = some .cut := by
 unfold Program.make
 rw [h]
 simp
end Go.AM
end

section
namespace Go.AM
abbrev LL:Type:=List (List AV)
abbrev E0:LL:=[]
def ZnO (l:List (List AV)):Prop:=∀ e∈l,∃ n:Int,0≤n∧n≤255∧e = [.val (.int .u8 n)]
def Z5 (a b:List (List AV)) (k:Nat):Prop:=(a.length+b.length)*(k+1)≤Jp
def ZaB (a:Int) (k:Nat):Prop:=0≤a∧a.toNat*(k+1)≤Jp
instance (l:List (List AV)):Decidable (ZnO l):=ZfK l
instance (a b:List (List AV)) (k:Nat):Decidable (Z5 a b k):=inferInstanceAs (Decidable ((a.length+b.length)*(k+1)≤Jp))
instance (a:Int) (k:Nat):Decidable (ZaB a k):=inferInstanceAs (Decidable (0≤a∧a.toNat*(k+1)≤Jp))
instance (l:List (List AV)):Decidable (l≠[]):=Zg1 l
theorem CQ:(∀ a b:Int,(cop .lss a b=true)=(a < b))∧(∀ a b:Int,(cop .lss a b=false)=(b≤a))∧(∀ a b:Int,(cop .leq a b=true)=(a≤b))∧(∀ a b:Int,(cop .leq a b=false)=(b < a))∧
  (∀ a b:Int,(cop .gtr a b=true)=(b < a))∧(∀ a b:Int,(cop .gtr a b=false)=(a≤b))∧(∀ a b:Int,(cop .geq a b=true)=(b≤a))∧(∀ a b:Int,(cop .geq a b=false)=(a < b))∧
  (∀ a b:Int,(cop .eql a b=true)=(a=b))∧(∀ a b:Int,(cop .eql a b=false)=(a≠b))∧(∀ a b:Int,(cop .neq a b=true)=(a≠b))∧(∀ a b:Int,(cop .neq a b=false)=(a=b))∧
  (∀ b:Bool,(¬b=true)=(b=false))∧(∀ b:Bool,(¬b=false)=(b=true))∧(∀ b:Bool,((!b)=true)=(b=false))∧(∀ b:Bool,((!b)=false)=(b=true))∧
  (∀ a b:Bool,((a&&b)=true)=(a=true∧b=true))∧(∀ a b:Bool,((a||b)=true)=(a=true∨b=true))∧(∀ {p:Prop} [Decidable p],(decide p=true)=p)∧(∀ {p:Prop} {_:Decidable p},decide p=false↔¬p)∧
  ((false=true)=False)∧((true=false)=False)∧(∀ {α β:Type} (a:α) (f:α→Option β),(some a).bind f=f a)∧(∀ {α:Type} (x y:α),(some x=some y)=(x=y))∧
  (∀ p:Prop,(False↔p) = ¬p)∧(∀ p:Prop,(True↔p)=p)∧(∀ p:Prop,(p↔False) = ¬p)∧(∀ p:Prop,(p↔True)=p):=
 ⟨ZG,ZN,ZO,ZL,ZF,ZQ,ZM,ZH,ZJ,ZI,ZK,ZP,Bool.not_eq_true,Bool.not_eq_false,Bool.not_eq_true',Bool.not_eq_false',Bool.and_eq_true,Bool.or_eq_true,
  @decide_eq_true_eq,@decide_eq_false_iff_not,Bool.false_eq_true,Bool.true_eq_false,@Option.bind_some,@Option.some.injEq,false_iff,true_iff,iff_false,iff_true⟩
theorem Zz {α:Type} {c:Prop} [Decidable c] {a b x:α} (h1:c→a=x) (h2:¬ c→b=x):(if c then a else b)=x:=by
 by_cases h:c
 ·rw [if_pos h];exact h1 h
 ·rw [if_neg h];exact h2 h
def STree.next:STree→STree
 | .branch _ t _ => t
 | .req _ t => t
 | .elem _ _ _ _ t => t
 | .nilq _ _ t => t
 | .call _ _ _ _ _ _ t => t
 | .loop _ _ _ t => t
 | t => t
def STree.other:STree→STree
 | .branch _ _ e => e
 | t => t
def STree.nexts:Nat→STree→STree
 | 0, t => t
 | k + 1, t => STree.nexts k t.next
def STree.go:STree→List Nat→STree
 | t, [] => t
 | t, 0 :: p => t.next.go p
 | t, 1 :: p => t.other.go p
 | t, k :: p => (STree.nexts k t).go p
@[reducible] def d2 {α β γ:Type} (r:α×β×γ):γ:=r.2.2
@[reducible] def d4 {α β γ δ ε:Type} (r:α×β×γ×δ×ε):ε:=r.2.2.2.2
@[reducible] def d8 {a b c d e f g h i:Type} (r:a×b×c×d×e×f×g×h×i):i:=d4 (d4 r)
@[reducible] def d16 {a b c d e f g h i j k l m n o p q:Type} (r:a×b×c×d×e×f×g×h×i×j×k×l×m×n×o×p×q):q:=d8 (d8 r)
def AP.hp:AP→HP
 | .c s => .c s
 | .agg l => .agg l
 | .box l => .box l
 | .gbox l => .gbox l
 | .clo g ds => .clo g ds
 | .dead => .dead
def VD:List AP→Nat→List SV
 | [], _ => []
 | a :: r, n => ZiL a.hp n :: VD r (n + a.n)
def Zl7:List AP→Nat
 | [] => 0
 | a :: r => a.n + Zl7 r
def apsFine (l:List AP):Bool:=l.all fun a=>a.hp.fine
theorem Zj0 (a:AP) (us:List V) (j:Nat):Zhe a us j=Vc a.hp us j:=by cases a<;>rfl
theorem ZbI:∀ (l:List AP) (n:Nat) (us:List V),apsFine l=true→(VD l n).map (SV.den (Zon us))=YX l us n
 | [], _, _, _ => rfl
 | a :: r, n, us, h => by
  simp only [apsFine,List.all_cons,Bool.and_eq_true] at h
  rw [VD,List.map_cons,YX,Zj0,ZiI (m:=n) h.1 (ρ:=Zon us) (us:=us) (fun j _=>rfl),ZbI r (n+a.n) us h.2]
theorem ZdV:∀ (l:List AP) (n:Nat),∀ x∈VD l n,x.bd (n+Zl7 l)
 | [], _ => by simp [VD]
 | a :: r, n => by
  intro x hx
  simp only [VD,List.mem_cons] at hx
  rcases hx with rfl | hx
  ·have hb:(ZiL a.hp n).bd (n+a.n):=by
    cases a with
    | c s => cases s <;> exact Nat.lt_succ_self n
    | agg l => exact JK l n
    | box l => exact JR l n
    | gbox l => exact JR l n
    | clo g ds => trivial
    | dead => trivial
   exact SV.bd_mono (by simp only [Zl7];omega) _ hb
  ·have:=ZdV r (n+a.n) x hx
   rw [Zl7,← Nat.add_assoc]
   exact this
section
variable {P:Program}
theorem fun_ok {Φ : List (FuncId × Fun)} {E : Env} (hm : P.follows .mixedOrders = true) (hps : PlainSound P E.plain) {f : FuncId} {fn : Func} {S : Fun} {n : Nat} {T : STree} (hf : P.funcs[f]? = some fn) (hname : (fn.name == "runtime.NumGoroutine") = false)
  (hfine:apsFine S.args=true) (hn:Zl7 S.args=n) (eq:Zoy P E fn (VD S.args 0) n=T) (hΦ:Zie P Φ) (hg:∀ vs,S.g vs=T.run P Φ S.args S.res (fun _ _=>none) (Zon vs)):S.Ok P f:=by
 intro vs r h
 rw [hg] at h
 have:=callOk_ofR (R:=fun x os=>Va P (os++[x]) (Z8 S.args (Za6 _ r) (Zd4 S.res)++[YN S.res (Za6 _ r) 0])) hm hps hf hname (args:=VD S.args 0) (n:=n) (ρ:=Zon vs)
  (fun a ha=>by have:=ZdV S.args 0 a ha;rwa [Nat.zero_add,hn] at this) (fun _ _ h=>h) (by rw [eq];exact WB hΦ (fun _ _ h=>h) T _ _ _ (fun _ _ h=>by cases h) h)
 rw [ZbI S.args 0 vs hfine] at this
 exact this
end
end Go.AM
end

section
namespace Go.AM
section
variable {P:Program} {H:Type} {enc:TypeId×Value→H} {w:World} {sp:Nat→Bool} {held:Bool}
end
end Go.AM
end

section
set_option linter.unusedVariables false
set_option linter.unusedSimpArgs false
namespace Go.AM
open Go.Shelf Go.RowKit Go.Lib
variable {P:Program}
def Zd5 {α β:Type} (R:α→β→Prop) (A:List α) (B:List β):Prop:=∀ (j:Nat) (z:α) (u:β),A[j]? = some z→B[j]? = some u→R z u
theorem Zd5.app {α β:Type} {R:α→β→Prop} {A A':List α} {B B':List β} (hl:A.length=B.length) (h:Zd5 R A B) (h':Zd5 R A' B'):Zd5 R (A++A') (B++B'):=by
 intro j z u hz hu
 by_cases hj:j < A.length
 ·rw [List.getElem?_append_left hj] at hz
  rw [List.getElem?_append_left (by omega)] at hu
  exact h j z u hz hu
 ·rw [List.getElem?_append_right (by omega)] at hz
  rw [List.getElem?_append_right (by omega),← hl] at hu
  exact h' _ z u hz hu
theorem Zd5.take {α β:Type} {R:α→β→Prop} {A:List α} {B:List β} (h:Zd5 R A B) (n:Nat):Zd5 R (A.take n) (B.take n):=by
 intro j z u hz hu
 rw [List.getElem?_take] at hz hu
 split at hz
 ·rename_i hj
  rw [if_pos hj] at hu
  exact h j z u hz hu
 ·cases hz
theorem Zd5.drop {α β:Type} {R:α→β→Prop} {A:List α} {B:List β} (h:Zd5 R A B) (n:Nat):Zd5 R (A.drop n) (B.drop n):=by
 intro j z u hz hu
 rw [List.getElem?_drop] at hz hu
 exact h _ z u hz hu
theorem Zd5.cut {α β:Type} {R:α→β→Prop} {A:List α} {B:List β} (h:Zd5 R A B) (n:Nat):Zd5 R A (B.take n):=by
 intro j z u hz hu
 rw [List.getElem?_take] at hu
 split at hu
 ·exact h j z u hz hu
 ·cases hu
theorem Zd5.ext {α β:Type} {R:α→β→Prop} {A:List α} {B C:List β} (h:Zd5 R A B) (hl:A.length≤B.length):Zd5 R A (B++C):=by
 intro j z u hz hu
 have:=(List.getElem?_eq_some_iff.1 hz).1
 rw [List.getElem?_append_left (by omega)] at hu
 exact h j z u hz hu
theorem Jf.trans {w w1 w2:World} {l l1 l2:Nat→Nat} {S S1 S2:Nat→Prop} (h:Jf w l w1 l1 S1) (h':Jf w1 l1 w2 l2 S2) (h1:∀ b,S1 b→S b) (h2:∀ b,S2 b→S b∨w.heap.size≤b):Jf w l w2 l2 S where
 os:=h'.os.trans h.os
 tape:=h'.tape.trans h.tape
 output:=h'.output.trans h.output
 size:=Nat.le_trans h.size h'.size
 frz a ha:=(h'.frz a (Nat.lt_of_lt_of_le ha h.size)).trans (h.frz a ha)
 blk b hb hn:=by
  have k1:=h.blk b hb fun hs=>hn (h1 b hs)
  have k2:=h'.blk b (Nat.lt_of_lt_of_le hb h.size) fun hs=>(h2 b hs).elim hn (fun h=>by omega)
  exact ⟨k2.1.trans k1.1,k2.2.trans k1.2⟩
 ext:=h.ext.trans h'.ext h.size
theorem ZgI (x:Bool) {f:FuncId} {args:List AV} {e:TypeId} {zs:List (List AV)} (hc:Callable P f)
  (h:∀ (w:World) (lim:Nat→Nat) (X:Nat→Nat→Option Nat) (cargs:List Value),cargs.length≤args.length→(∀ i,ZV P w lim X (Z0 args) i (Z0 args i) (cargs.getD i undef))→Zho X→(∀ i k b,X i k=some b→b < w.heap.size)→
   Calls P f cargs.toArray w fun e' w'=>∃ v lim' ob',e' = .returned v∧Jq P w' lim' true e zs v ob'∧Jf w lim w' lim' (fun b=>∃ i k,X i k=some b)∧∀ b,ob'=some b→b < w'.heap.size∧(((∃ i k,X i k=some b)∧lim b=0)∨w.heap.size≤b)) :
  JE P f args (.own x e zs) (List.replicate args.length .dead):=by
 refine ⟨hc,fun w lim X cargs hl hrel hd hs=>?_⟩
 refine (h w lim X cargs (by omega) hrel hd hs).mono ?_
 rintro e' w' ⟨v,lim1,ob',he,ho1,hw1,hb1⟩
 have hx:∃ lim',Jq P w' lim' x e zs v ob'∧Jf w lim w' lim' (fun b=>∃ i k,X i k=some b):=by
  cases x
  case true=>exact ⟨lim1,ho1,hw1⟩
  case false=>
   cases ob' with
   | none =>
    refine ⟨lim1,?_,hw1⟩
    rcases ho1 with ⟨us,h1,h2,h3,h4,h5,h6⟩ | h
    ·exact .inl ⟨us,h1,h2,fun b hb=>(by cases hb),h4,h5,h6⟩
    ·exact .inr h
   | some b0 =>
    have hl0:lim1 b0=0:=by
     rcases ho1 with ⟨us,h1,h2,h3,_⟩ | ⟨_,h,_⟩
     ·rw [h3 b0 rfl];rfl
     ·cases h
    have hbb:=hb1 b0 rfl
    have hext:Ext w' lim1 w' (KB lim1 b0 (zs.length*P.cellsOf e)):=fun b _=>by
     refine ⟨?_,fun o u _ hu=>hu⟩
     unfold KB
     split
     ·rename_i h;rw [h,hl0];exact Nat.zero_le _
     ·exact Nat.le_refl _
    refine ⟨_,Zak ho1 hext,⟨hw1.os,hw1.tape,hw1.output,hw1.size,hw1.frz,fun b hb hn=>?_,hw1.ext.trans hext hw1.size⟩⟩
    obtain ⟨k1,k2⟩:=hw1.blk b hb hn
    refine ⟨k1,?_⟩
    have hne:b≠b0:=by
     rintro rfl
     rcases hbb.2 with h1 | h1
     ·exact hn h1.1
     ·omega
    show (if b=b0 then _ else lim1 b)=lim b
    rw [if_neg hne]
    exact k2
 obtain ⟨lim',ho,hw⟩:=hx
 have hb:∀ b,ob'=some b→b < w'.heap.size∧((∃ i k,X i k=some b)∨w.heap.size≤b):=fun b hb=>⟨(hb1 b hb).1,(hb1 b hb).2.imp (·.1) id⟩
 have hat:∀ i,Z0 (List.replicate args.length AV.dead++[.own x e zs]) i=if i=args.length then .own x e zs else .dead:=by
  intro i
  unfold Z0
  by_cases hi:i < args.length
  ·rw [List.getElem?_append_left (by simpa using hi),List.getElem?_replicate,if_pos hi,if_neg (by omega)];rfl
  ·rw [List.getElem?_append_right (by simpa using hi),List.length_replicate]
   by_cases hi2:i=args.length
   ·subst hi2
    rw [if_pos rfl,Nat.sub_self]
    rfl
   ·rw [if_neg hi2,List.getElem?_eq_none (by simp;omega)]
    rfl
 refine ⟨v,lim',fun i k=>if i=args.length∧k=0 then ob' else none,he,hw,by simp,fun i=>?_,?_,?_,?_⟩
 ·rw [hat]
  by_cases hi:i=args.length
  ·subst hi
   rw [if_pos rfl]
   show Jq P w' lim' x e zs _ _
   unfold Wd
   rw [if_pos rfl]
   show Jq P w' lim' x e zs _ (if args.length=args.length∧0=0 then ob' else none)
   rw [if_pos ⟨rfl,rfl⟩]
   exact ho
  ·rw [if_neg hi]
   trivial
 ·intro d k d' k' b h1 h2
  dsimp only at h1 h2
  split at h1
  ·split at h2
   ·rename_i a1 a2
    exact ⟨a1.1.trans a2.1.symm,a1.2.trans a2.2.symm⟩
   ·cases h2
  ·cases h1
 ·intro i k b h1
  dsimp only at h1
  split at h1
  ·exact hb b h1
  ·cases h1
 ·intro i h1
  rw [hat] at h1
  split at h1<;>simp [AV.isG] at h1
theorem arg_int {w:World} {lim:Nat→Nat} {X:Nat→Nat→Option Nat} {σ:Nat→AV} {d:Nat} {k:IntKind} {z:Int} {v:Value} (h:ZV P w lim X σ d (.val (.int k z)) v):v = .int k z:=Yp (show Rep w lim _ v from h)
end Go.AM
end
