import Derived.Test.YtnkmbgbpkgmbnaaGreatM3
import Derived.WalkKit
import Derived.Lib.Walk
import Derived.Lib.SliceRun
import Derived.Lib.AppendZerosOnto
import Derived.Lib.Overlaps
import Derived.Laws.Externs
import Derived.Laws.IdiomCopy
import Derived.Shelf.RegionOpenPlain
import Derived.Shelf.SlIterI.Nil
import Derived.Shelf.SortM.Plain
import Derived.Shelf.SortM.SortNone
import Derived.Ground.GgzProg
import Derived.Ground.SlgmProg
import Derived.Test.YtnkmbgbpkgmbnaaGreatProg
open Option renaming some→Xa,none→Xe
open Bool renaming false→Xb,true→Xc,and_eq_true→Xk
open List renaming map_cons→Xn,mem_append→Xq,length_take→Xu,replicate→Xv,getElem?_eq_some_iff→Xx,append_assoc→XB,length_append→XD,getElem?_append_right→XG,getElem?_append_left→XH,getElem?_take→XI,mem_of_mem_take→XL,length_cons→XO,mem_of_mem_drop→XR,length_drop→XV,getElem?_drop→X4,map_nil→X5,cons_append→X8,nil_append→X9,take_of_length_le→Uc,length_nil→Ui,size_toArray→Up,map_toArray→UQ,flatten_append→U0,getElem?_toArray→To,take_append_of_le_length→Tp,push_toArray→TL,append_toArray→TM
open Nat renaming le_refl→Xt,le_trans→XN,mul_le_mul_right→XP,add_mul→XY,lt_of_lt_of_le→Uj,sub_mul→UZ,mul_le_mul_left→Tc
open Int renaming toNat_natCast→Ua
open Array renaming getElem?_eq_some_iff→UF,replicate_succ→TJ,replicate_zero→TK,getElem?_modify→TX
open Go.IntKind renaming wrap_i64→Tv
set_option linter.unusedVariables false
set_option linter.unusedSimpArgs false
set_option linter.defProp false
namespace Go.AM
section
open Go.Shelf Go.RowKit Go.Lib
variable {P:Program}
def Y7 (w:World) (q r ty c:TypeId) (f:TypeInfo) (g o d h:Nat) (a:Addr) (e i n:Nat) (b:Array Value) (t:TypeId) (cs:List Value)
  (s:P.underlying q=Xa (.slice c)) (u:P.info? c=Xa f) (x:w.heap[g]? = Xa (.cells b t (0,0))) (y:n=Nat.min e d) (z:cs.length=n*f.size)
  (k:∀ j v,cs[j]? = Xa v→w.cell? (a.add j)=Xa v) (l:o+cs.length≤b.size) (A:∀ v∈cs,v.oneCell'=Xc) :
  (Builtin.copy_ #[q,r] ty #[.slice (Xa ⟨g,o,Xe⟩) d h,.slice (Xa a) e i]).run P w =
   .ok (goInt n) (w.setRow g (b.toList.take o++cs++b.toList.drop (o+cs.length)).toArray):=by
 have m:=run_loadCells_list (P:=P) w a cs k;have p:=run_storeCells_at P g o t cs 0 b w x (by simpa using l) A;rw [z] at m;simp [Builtin.copy_,run_underlying s,Builtin.lenOf,Builtin.firstCells,sizeOf,typeInfo,u,← y,m,p]
def Zf9 (w:World) {o:Oper} {a:Act} {K:Act→World→Prop} {Q:Exit→Act→World→Prop} (d s:Operand) (t b:TypeId)
  (e:o.op = .call { callee:=.builtin .copy,args:=#[d,s],argTypes:=#[t,b] }) (v u:Value) (f:a.eval d=v) (g:a.eval s=u) {c:Value} {w':World}
  (i:(Builtin.copy_ #[t,b] o.type #[v,u]).run P w = .ok c w') (h:K (a.put o.dst c) w'):o.wp P a w K Q:=by
 unfold Oper.wp execOp;simp only [e,resolve,invoke,builtin,Sem.run_bind,Sem.run_pure,Result.andThen_ok,UQ,Xn,X5,f,g,i];exact h
def Vp (w:World) {ops:Array Oper} {b:List Oper} {o:Oper} {a:Act} {Q:Exit→Act→World→Prop} (c:o.guard=Xe) (d s:Operand) (t e:TypeId)
  (g:o.op = .call { callee:=.builtin .copy,args:=#[d,s],argTypes:=#[t,e] }) (v u:Value) (i:a.eval d=v) (j:a.eval s=u) {f:Value} {w':World}
  (k:(Builtin.copy_ #[t,e] o.type #[v,u]).run P w = .ok f w') (h:wpList P ops Q b (a.put o.dst f) w'):wpList P ops Q (o::b) a w:=
 wpList_plain c fun _ l=>Zf9 w d s t e g v u i j k (l _ _ h)
def Wj {ops:Array Oper} {o:Oper} {a:Act} {w:World} {K:Act→World→Prop} {Q:Exit→Act→World→Prop} {E:Prop}
  (g:o.guard=Xe) (d x:Operand) (c e:TypeId) (b:o.op=Op.call { callee:=Callee.builtin Builtin.copy,args:=#[d,x],argTypes:=#[c,e] })
  (v u:Value) (h:a.eval d=v) (i:a.eval x=u) {f:Value} {w':World} (j:(Builtin.copy_ #[c,e] o.type #[v,u]).run P w = .ok f w') (k:K (a.put o.dst f) w') :
  if Region.wanted o (yielded ops a.tmps)=Xc then Oper.wp P o a w K Q else E:=by
 have l:Region.wanted o (yielded ops a.tmps)=Xc:=by simp [Region.wanted,g]
 rw [P4 l];unfold Oper.wp;simp [execOp,b,resolve,invoke,builtin,h,i,j,Result.andThen];exact k
def insCode (T B I:TypeId) (fO fR:FuncId):Code:=
  (.seq (.region 0 #[
    ⟨Xa 6, .assign (.const (.slice Xe 0 0)), T, "slices.go:136", #[], Xe⟩] Xb)
  (.seq (.region 1 #[
    ⟨Xa 10, .move (.tmp 0), T, "slices.go:137", #[], Xe⟩,
    ⟨Xa 11, .move (.tmp 1), I, "slices.go:137", #[], Xe⟩,
    ⟨Xa 12, .slice T (.tmp 10) (Xa (.tmp 11)) Xe Xe, T, "slices.go:137", #[⟨0, .data⟩, ⟨1, .data⟩], Xe⟩] Xb)
  (.seq (.region 2 #[
    ⟨Xa 13, .move (.tmp 2), T, "slices.go:139", #[], Xe⟩,
    ⟨Xa 14, .call ⟨.builtin .len, #[(.tmp 13)], #[T]⟩, I, "slices.go:139", #[⟨0, .data⟩], Xe⟩,
    ⟨Xa 7, .assign (.tmp 14), I, "slices.go:139", #[⟨1, .data⟩, ⟨0, .phase⟩, ⟨1, .phase⟩], Xe⟩] Xb)
  (.seq (.seq (.region 3 #[
    ⟨Xa 15, .move (.tmp 7), I, "slices.go:140", #[], Xe⟩,
    ⟨Xa 16, .binOp .eql I (.tmp 15) (.const (.int .i64 0)) I, B, "slices.go:140", #[⟨0, .data⟩], Xe⟩] Xb)
  (.cond (.tmp 16)
   (.seq (.region 4 #[
     ⟨Xa 17, .move (.tmp 0), T, "slices.go:141", #[], Xe⟩,
     ⟨Xa 6, .assign (.tmp 17), T, "slices.go:141", #[⟨0, .data⟩, ⟨0, .phase⟩], Xe⟩] Xb)
   .ret)
   .skip))
  (.seq (.region 5 #[
    ⟨Xa 18, .move (.tmp 0), T, "slices.go:143", #[], Xe⟩,
    ⟨Xa 19, .call ⟨.builtin .len, #[(.tmp 18)], #[T]⟩, I, "slices.go:143", #[⟨0, .data⟩], Xe⟩,
    ⟨Xa 8, .assign (.tmp 19), I, "slices.go:143", #[⟨1, .data⟩, ⟨0, .phase⟩, ⟨1, .phase⟩], Xe⟩] Xb)
  (.seq (.seq (.region 6 #[
    ⟨Xa 20, .move (.tmp 1), I, "slices.go:144", #[], Xe⟩,
    ⟨Xa 21, .move (.tmp 8), I, "slices.go:144", #[], Xe⟩,
    ⟨Xa 22, .binOp .eql I (.tmp 20) (.tmp 21) I, B, "slices.go:144", #[⟨0, .data⟩, ⟨1, .data⟩], Xe⟩] Xb)
  (.cond (.tmp 22)
   (.seq (.region 7 #[
     ⟨Xa 23, .move (.tmp 0), T, "slices.go:145", #[], Xe⟩,
     ⟨Xa 24, .move (.tmp 2), T, "slices.go:145", #[], Xe⟩,
     ⟨Xa 25, .call ⟨.builtin .append, #[(.tmp 23), (.tmp 24)], #[T, T]⟩, T, "slices.go:145", #[⟨0, .data⟩, ⟨1, .data⟩], Xe⟩,
     ⟨Xa 6, .assign (.tmp 25), T, "slices.go:145", #[⟨2, .data⟩, ⟨2, .chain⟩, ⟨0, .phase⟩, ⟨1, .phase⟩, ⟨2, .phase⟩], Xe⟩] Xb)
   .ret)
   .skip))
  (.seq (.seq (.region 8 #[
    ⟨Xa 26, .move (.tmp 8), I, "slices.go:147", #[], Xe⟩,
    ⟨Xa 27, .move (.tmp 7), I, "slices.go:147", #[], Xe⟩,
    ⟨Xa 28, .binOp .add I (.tmp 26) (.tmp 27) I, I, "slices.go:147", #[⟨0, .data⟩, ⟨1, .data⟩], Xe⟩,
    ⟨Xa 29, .move (.tmp 0), T, "slices.go:147", #[], Xe⟩,
    ⟨Xa 30, .call ⟨.builtin .cap, #[(.tmp 29)], #[T]⟩, I, "slices.go:147", #[⟨3, .data⟩], Xe⟩,
    ⟨Xa 31, .binOp .gtr I (.tmp 28) (.tmp 30) I, B, "slices.go:147", #[⟨2, .data⟩, ⟨4, .data⟩], Xe⟩] Xb)
  (.cond (.tmp 31)
   (.seq (.region 9 #[
     ⟨Xa 32, .move (.tmp 0), T, "slices.go:152", #[], Xe⟩,
     ⟨Xa 33, .move (.tmp 1), I, "slices.go:152", #[], Xe⟩,
     ⟨Xa 34, .slice T (.tmp 32) Xe (Xa (.tmp 33)) Xe, T, "slices.go:152", #[⟨0, .data⟩, ⟨1, .data⟩], Xe⟩,
     ⟨Xa 35, .move (.tmp 8), I, "slices.go:152", #[], Xe⟩,
     ⟨Xa 36, .move (.tmp 7), I, "slices.go:152", #[], Xe⟩,
     ⟨Xa 37, .binOp .add I (.tmp 35) (.tmp 36) I, I, "slices.go:152", #[⟨3, .data⟩, ⟨4, .data⟩], Xe⟩,
     ⟨Xa 38, .move (.tmp 1), I, "slices.go:152", #[], Xe⟩,
     ⟨Xa 39, .binOp .sub I (.tmp 37) (.tmp 38) I, I, "slices.go:152", #[⟨5, .data⟩, ⟨6, .data⟩], Xe⟩,
     ⟨Xa 40, .call ⟨.builtin .append, #[(.tmp 34), (.tmp 39)], #[T, I]⟩, T, "slices.go:152", #[⟨2, .data⟩, ⟨7, .data⟩], Xe⟩,
     ⟨Xa 9, .assign (.tmp 40), T, "slices.go:152", #[⟨8, .data⟩, ⟨8, .chain⟩, ⟨0, .phase⟩, ⟨1, .phase⟩, ⟨2, .phase⟩, ⟨3, .phase⟩, ⟨4, .phase⟩, ⟨5, .phase⟩, ⟨6, .phase⟩, ⟨7, .phase⟩, ⟨8, .phase⟩], Xe⟩] Xb)
   (.seq (.region 10 #[
     ⟨Xa 41, .move (.tmp 9), T, "slices.go:153", #[], Xe⟩,
     ⟨Xa 42, .move (.tmp 1), I, "slices.go:153", #[], Xe⟩,
     ⟨Xa 43, .slice T (.tmp 41) (Xa (.tmp 42)) Xe Xe, T, "slices.go:153", #[⟨0, .data⟩, ⟨1, .data⟩], Xe⟩,
     ⟨Xa 44, .move (.tmp 2), T, "slices.go:153", #[], Xe⟩,
     ⟨Xa 45, .call ⟨.builtin .copy, #[(.tmp 43), (.tmp 44)], #[T, T]⟩, I, "slices.go:153", #[⟨2, .data⟩, ⟨3, .data⟩], Xe⟩] Xb)
   (.seq (.region 11 #[
     ⟨Xa 46, .move (.tmp 9), T, "slices.go:154", #[], Xe⟩,
     ⟨Xa 47, .move (.tmp 1), I, "slices.go:154", #[], Xe⟩,
     ⟨Xa 48, .move (.tmp 7), I, "slices.go:154", #[], Xe⟩,
     ⟨Xa 49, .binOp .add I (.tmp 47) (.tmp 48) I, I, "slices.go:154", #[⟨1, .data⟩, ⟨2, .data⟩], Xe⟩,
     ⟨Xa 50, .slice T (.tmp 46) (Xa (.tmp 49)) Xe Xe, T, "slices.go:154", #[⟨0, .data⟩, ⟨3, .data⟩], Xe⟩,
     ⟨Xa 51, .move (.tmp 0), T, "slices.go:154", #[], Xe⟩,
     ⟨Xa 52, .move (.tmp 1), I, "slices.go:154", #[], Xe⟩,
     ⟨Xa 53, .slice T (.tmp 51) (Xa (.tmp 52)) Xe Xe, T, "slices.go:154", #[⟨5, .data⟩, ⟨6, .data⟩], Xe⟩,
     ⟨Xa 54, .call ⟨.builtin .copy, #[(.tmp 50), (.tmp 53)], #[T, T]⟩, I, "slices.go:154", #[⟨4, .data⟩, ⟨7, .data⟩], Xe⟩] Xc)
   (.seq (.region 12 #[
     ⟨Xa 55, .move (.tmp 9), T, "slices.go:155", #[], Xe⟩,
     ⟨Xa 6, .assign (.tmp 55), T, "slices.go:155", #[⟨0, .data⟩, ⟨0, .phase⟩], Xe⟩] Xb)
   .ret))))
   .skip))
  (.seq (.region 13 #[
    ⟨Xa 56, .move (.tmp 0), T, "slices.go:157", #[], Xe⟩,
    ⟨Xa 57, .move (.tmp 8), I, "slices.go:157", #[], Xe⟩,
    ⟨Xa 58, .move (.tmp 7), I, "slices.go:157", #[], Xe⟩,
    ⟨Xa 59, .binOp .add I (.tmp 57) (.tmp 58) I, I, "slices.go:157", #[⟨1, .data⟩, ⟨2, .data⟩], Xe⟩,
    ⟨Xa 60, .slice T (.tmp 56) Xe (Xa (.tmp 59)) Xe, T, "slices.go:157", #[⟨0, .data⟩, ⟨3, .data⟩], Xe⟩,
    ⟨Xa 0, .assign (.tmp 60), T, "slices.go:157", #[⟨4, .data⟩, ⟨0, .phase⟩, ⟨1, .phase⟩, ⟨2, .phase⟩, ⟨3, .phase⟩, ⟨4, .phase⟩], Xe⟩] Xb)
  (.seq (.seq (.region 14 #[
    ⟨Xa 61, .move (.tmp 2), T, "slices.go:173", #[], Xe⟩,
    ⟨Xa 62, .move (.tmp 0), T, "slices.go:173", #[], Xe⟩,
    ⟨Xa 63, .move (.tmp 1), I, "slices.go:173", #[], Xe⟩,
    ⟨Xa 64, .move (.tmp 7), I, "slices.go:173", #[], Xe⟩,
    ⟨Xa 65, .binOp .add I (.tmp 63) (.tmp 64) I, I, "slices.go:173", #[⟨2, .data⟩, ⟨3, .data⟩], Xe⟩,
    ⟨Xa 66, .slice T (.tmp 62) (Xa (.tmp 65)) Xe Xe, T, "slices.go:173", #[⟨1, .data⟩, ⟨4, .data⟩], Xe⟩,
    ⟨Xa 67, .call ⟨.value (.func fO), #[(.tmp 61), (.tmp 66)], #[T, T]⟩, B, "slices.go:173", #[⟨0, .data⟩, ⟨5, .data⟩], Xe⟩,
    ⟨Xa 68, .unOp .not B (.tmp 67), B, "slices.go:173", #[⟨6, .data⟩], Xe⟩] Xb)
  (.cond (.tmp 68)
   (.seq (.region 15 #[
     ⟨Xa 69, .move (.tmp 0), T, "slices.go:178", #[], Xe⟩,
     ⟨Xa 70, .move (.tmp 1), I, "slices.go:178", #[], Xe⟩,
     ⟨Xa 71, .move (.tmp 7), I, "slices.go:178", #[], Xe⟩,
     ⟨Xa 72, .binOp .add I (.tmp 70) (.tmp 71) I, I, "slices.go:178", #[⟨1, .data⟩, ⟨2, .data⟩], Xe⟩,
     ⟨Xa 73, .slice T (.tmp 69) (Xa (.tmp 72)) Xe Xe, T, "slices.go:178", #[⟨0, .data⟩, ⟨3, .data⟩], Xe⟩,
     ⟨Xa 74, .move (.tmp 0), T, "slices.go:178", #[], Xe⟩,
     ⟨Xa 75, .move (.tmp 1), I, "slices.go:178", #[], Xe⟩,
     ⟨Xa 76, .slice T (.tmp 74) (Xa (.tmp 75)) Xe Xe, T, "slices.go:178", #[⟨5, .data⟩, ⟨6, .data⟩], Xe⟩,
     ⟨Xa 77, .call ⟨.builtin .copy, #[(.tmp 73), (.tmp 76)], #[T, T]⟩, I, "slices.go:178", #[⟨4, .data⟩, ⟨7, .data⟩], Xe⟩] Xc)
   (.seq (.region 16 #[
     ⟨Xa 78, .move (.tmp 0), T, "slices.go:186", #[], Xe⟩,
     ⟨Xa 79, .move (.tmp 1), I, "slices.go:186", #[], Xe⟩,
     ⟨Xa 80, .slice T (.tmp 78) (Xa (.tmp 79)) Xe Xe, T, "slices.go:186", #[⟨0, .data⟩, ⟨1, .data⟩], Xe⟩,
     ⟨Xa 81, .move (.tmp 2), T, "slices.go:186", #[], Xe⟩,
     ⟨Xa 82, .call ⟨.builtin .copy, #[(.tmp 80), (.tmp 81)], #[T, T]⟩, I, "slices.go:186", #[⟨2, .data⟩, ⟨3, .data⟩], Xe⟩] Xb)
   (.seq (.region 17 #[
     ⟨Xa 83, .move (.tmp 0), T, "slices.go:193", #[], Xe⟩,
     ⟨Xa 6, .assign (.tmp 83), T, "slices.go:193", #[⟨0, .data⟩, ⟨0, .phase⟩], Xe⟩] Xb)
   .ret)))
   .skip))
  (.seq (.region 18 #[
    ⟨Xa 84, .move (.tmp 0), T, "slices.go:200", #[], Xe⟩,
    ⟨Xa 85, .move (.tmp 8), I, "slices.go:200", #[], Xe⟩,
    ⟨Xa 86, .slice T (.tmp 84) (Xa (.tmp 85)) Xe Xe, T, "slices.go:200", #[⟨0, .data⟩, ⟨1, .data⟩], Xe⟩,
    ⟨Xa 87, .move (.tmp 2), T, "slices.go:200", #[], Xe⟩,
    ⟨Xa 88, .call ⟨.builtin .copy, #[(.tmp 86), (.tmp 87)], #[T, T]⟩, I, "slices.go:200", #[⟨2, .data⟩, ⟨3, .data⟩], Xe⟩] Xb)
  (.seq (.region 19 #[
    ⟨Xa 89, .move (.tmp 0), T, "slices.go:207", #[], Xe⟩,
    ⟨Xa 90, .move (.tmp 1), I, "slices.go:207", #[], Xe⟩,
    ⟨Xa 91, .slice T (.tmp 89) (Xa (.tmp 90)) Xe Xe, T, "slices.go:207", #[⟨0, .data⟩, ⟨1, .data⟩], Xe⟩,
    ⟨Xa 92, .move (.tmp 7), I, "slices.go:207", #[], Xe⟩,
    ⟨Xa 93, .call ⟨.value (.func fR), #[(.tmp 91), (.tmp 92)], #[T, I]⟩, 0, "slices.go:207", #[⟨2, .data⟩, ⟨3, .data⟩], Xe⟩] Xb)
  (.seq (.region 20 #[
    ⟨Xa 94, .move (.tmp 0), T, "slices.go:214", #[], Xe⟩,
    ⟨Xa 6, .assign (.tmp 94), T, "slices.go:214", #[⟨0, .data⟩, ⟨0, .phase⟩], Xe⟩] Xb)
  .ret))))))))))))
structure Zco (P:Program) (T B I e:TypeId) (inf:TypeInfo) (z:Value) (k:Nat):Prop where
 mixed:P.follows .mixedOrders=Xc
 tT:P.underlying T=Xa (.slice e)
 tI:P.underlying I=Xa (.int .i64)
 tB:P.underlying B=Xa .bool
 ie:P.info? e=Xa inf
 zero:inf.zero=Xa z
 zsz:z.cells.size=k
 sz:inf.size=k
 pos:0 < k
 nm:Zv P e=Xb
structure Zcy (P:Program) (T B I:TypeId) (fO:FuncId) (e:TypeId) (inf:TypeInfo) (z:Value) (k:Nat):Prop extends Zco P T B I e inf z k where
 fO:∀ args w,(callFunc fO args).run P w=((Extern.SlicesOverlaps.overlaps #[T,T] #[B] args).run P w).andThen fun v w'=>.ok (.value v) w'
def Ziv {w:World} {b:Nat} {a:Array Value} {e:TypeId} {c:Nat×Nat} (h:w.heap[b]? = Xa (.cells a e c)):w.shape? b=Xa (e,a.size):=by simp [World.shape?,h]
def ZgS {w:World} {b o:Nat} {a:Array Value} {e:TypeId} (h:w.heap[b]? = Xa (.cells a e (0,0))):w.frozen? ⟨b,o,Xe⟩=Xb:=by simp [World.frozen?,h]
def Yi (U:List Value) (k n m i:Nat):List Value:=U.take ((i+m)*k)++(U.drop (i*k)).take ((n-i)*k)++U.drop ((i+m)*k+(n-i)*k)
def Zdy (U vs:List Value) (k n m i:Nat):List Value:=
 (Yi U k n m i).take (i*k)++vs++(Yi U k n m i).drop (i*k+m*k)
def V7 {w:World} {b:Nat} {a:Array Value} {e:TypeId} {c:Nat×Nat} (h:w.heap[b]? = Xa (.cells a e c)) {l:List Value} {q:Nat} (d:∀ j v,l[j]? = Xa v→a[q+j]? = Xa v) :
  ∀ j v,l[j]? = Xa v→w.cell? ((⟨b,q,Xe⟩:Addr).add j)=Xa v:=fun j v f=>by
 rw [J1,Je h];exact d j v f
def Ym {w:World} {b:Nat} {a cur':Array Value} {t:TypeId} (h:w.heap[b]? = Xa (.cells a t (0,0))):(w.setRow b cur').heap[b]? = Xa (.cells cur' t (0,0)):=setRow_heap w b a cur' t (0,0) h
set_option maxHeartbeats 4000000 in
set_option maxRecDepth 100000 in
def ZlK {T B I:TypeId} {fO fR:FuncId} {e:TypeId} {t:TypeInfo} {z:Value} {k:Nat} (L:Zcy P T B I fO e t z k) {f:FuncId} {Q:Func} (hf:P.funcs[f]? = Xa Q) (hb:Q.body=Xa (insCode T B I fO fR)) (R:Q.ntmps=95) (S:Q.results = #[.tmp 6])
  (b n c i h m vc:Nat) (a d:Array Value) (w:World) (hi:i < n) (hm:0 < m) (u:n+m≤c) (ac:c≤9223372036854775807) (C:h≠b)
  (D:w.heap[b]? = Xa (.cells a e (0,0))) (x:a.size=c*k) (l:w.heap[h]? = Xa (.cells d e (0,0))) (E:d.size=vc*k) (U:m≤vc)
  (G:∀ v∈a.toList.take (n*k),v.oneCell'=Xc) (H:∀ v∈d.toList.take (m*k),v.oneCell'=Xc) :
  Calls P f #[.slice (Xa ⟨b,0,Xe⟩) n c,.int .i64 i,.slice (Xa ⟨h,0,Xe⟩) m vc] w fun e' w'=>
   e' = .returned (.slice (Xa ⟨b,0,Xe⟩) (n+m) c)∧w'=(w.drew.setRow b (Yi a.toList k n m i).toArray).setRow b (Zdy a.toList (d.toList.take (m*k)) k n m i).toArray:=by
 have X:=L.mixed;have t0:=L.tT;have t1:=L.tI;have t2:=L.tB;have u0:=run_underlying L.tT;have u1:=run_underlying L.tI;have u2:=run_underlying L.tB;have Y:∀ w,(Go.sizeOf e).run P w = .ok k w:=fun w=>by rw [Zt L.ie];rw [ZF L.ie,L.sz]
 have hk:=L.pos;have ad:¬ ((m:Int)=0):=by omega
 have ae:¬ ((i:Int)=(n:Int)):=by omega
 have af:(n+m)*k≤c*k:=XP _ u;have ag:(n+m)*k=n*k+m*k:=XY _ _ _;have Z:(i+m)*k=i*k+m*k:=XY _ _ _;have aa:(n-i)*k=n*k-i*k:=UZ _ _ _;have ah:i*k≤n*k:=XP _ (by omega);have ai:0 < c*k:=Nat.mul_pos (by omega) hk;have aj:m*k≤vc*k:=XP _ U
 have J:∀ M N W,W.heap[h]? = w.heap[h]?→W.heap[b]? = w.heap[b]?→(callFunc fO #[.slice (Xa ⟨h,0,Xe⟩) m vc,.slice (Xa ⟨b,(i+m)*k,Xe⟩) M N]).run P W = .ok (.value (.bool Xb)) W:=fun M N W O h2=>by
  rw [L.fO,Lib.run_overlaps_apart W T B e L.tT k Y ⟨h,0,Xe⟩ ⟨b,(i+m)*k,Xe⟩ m vc M N C e e d.size a.size (Ziv (O.trans l)) (Ziv (h2.trans D)) (by omega) (ZgS (O.trans l)) (ZgS (O.trans l))];rfl
 have y:a.toList.length=c*k:=by simpa using x
 have ak:i≤n:=by omega
 have q:∀ ty p sc,(Builtin.copy_ #[T,T] ty #[.slice (Xa ⟨b,(i+m)*k,Xe⟩) (n+m-(i+m)) p,.slice (Xa ⟨b,i*k,Xe⟩) (n+m-i) sc]).run P w.drew = .ok (goInt ((n-i:Nat):Int)) (w.drew.setRow b (Yi a.toList k n m i).toArray):=fun ty p sc=>by
  have g:((a.toList.drop (i*k)).take ((n-i)*k)).length=(n-i)*k:=by rw [Xu,XV,y];omega
  have:=Y7 (P:=P) w.drew T T ty e t b ((i+m)*k) (n+m-(i+m)) p ⟨b,i*k,Xe⟩ (n+m-i) sc (n-i) a e ((a.toList.drop (i*k)).take ((n-i)*k)) L.tT L.ie D (by simp only [Nat.min_def];split<;>omega) (by rw [g,L.sz])
   (V7 (w:=w.drew) D fun j v o=>by
    rw [XI] at o;split at o
    ·rw [X4] at o;simpa using o
    ·cases o)
   (by rw [g,x];omega) (fun v hv=>G v (by
    rw [aa,← List.drop_take] at hv;exact XR hv))
  rw [g] at this;exact this
 have r:∀ W,W.heap[b]? = Xa (.cells (Yi a.toList k n m i).toArray e (0,0))→W.heap[h]? = w.heap[h]?→∀ ty p,(Builtin.copy_ #[T,T] ty #[.slice (Xa ⟨b,i*k,Xe⟩) (n+m-i) p,.slice (Xa ⟨h,0,Xe⟩) m vc]).run P W = .ok (goInt m) (W.setRow b (Zdy a.toList (d.toList.take (m*k)) k n m i).toArray):=fun W O h2 ty p=>by
  have ab:d.toList.length=vc*k:=by simpa using E
  have g:(d.toList.take (m*k)).length=m*k:=by rw [Xu,ab];omega
  have:=Y7 (P:=P) W T T ty e t b (i*k) (n+m-i) p ⟨h,0,Xe⟩ m vc m (Yi a.toList k n m i).toArray e (d.toList.take (m*k)) L.tT L.ie O (by simp only [Nat.min_def];split<;>omega) (by rw [g,L.sz])
   (V7 (w:=W) (h2.trans l) fun j v o=>by
    rw [XI] at o;split at o
    ·simpa using o
    ·cases o)
   (by
    have:(Yi a.toList k n m i).length=c*k:=by simp only [Yi,XD,Xu,XV,y];omega
    rw [g,Up,this];omega) H
  rw [g] at this;exact this
 have al:IntKind.i64.wrap ((i:Int)+(m:Int))=(i:Int)+(m:Int):=by rw [Tv];omega
 have am:IntKind.i64.wrap ((n:Int)+(m:Int))=(n:Int)+(m:Int):=by rw [Tv];omega
 have an:(0:Int)≤(i:Int)+(m:Int):=by omega
 have ao:((i:Int)+(m:Int)).toNat=i+m:=by omega
 have ap:¬ (c=i+m):=by omega
 have aq:(i:Int)≤(n:Int)+(m:Int):=by omega
 have ar:¬ (c=i):=by omega
 have A:=fun ty p=>r (w.drew.setRow b (Yi a.toList k n m i).toArray) (Ym (w:=w.drew) D) (by simp [World.setRow,TX,Ne.symm C];rfl) ty p;have s:=fun M N=>J M N w rfl rfl;rw [Z] at s q;clear r J D l x y E G H;refine calls_of_wp hf hb ?_;rw [R];simp only [Up,XO,Ui,Nat.reduceAdd,Nat.reduceSub,TJ,TK,TL,TM,X9,X8];unfold insCode
 go_wp2_with (simp only [s])
 go_region_law_o (refine Wj rfl _ _ T T rfl _ _ (by simp [Act.eval,Act.put]) (by simp [Act.eval,Act.put]) (q _ _ _) ?_)
 go_wp2_with (at_builtin;refine Vp _ rfl _ _ T T rfl _ _ rfl rfl (A _ _) ?_)
 refine bodyPost_ret (results_tmp S _ _ _) rfl ?_;exact ⟨rfl,rfl⟩
set_option maxHeartbeats 4000000 in
set_option maxRecDepth 100000 in
def Zsq {T B I:TypeId} {fO fR:FuncId} {e:TypeId} {g:TypeInfo} {z:Value} {k:Nat} (L:Zcy P T B I fO e g z k) {f:FuncId} {d:Func} (q:P.funcs[f]? = Xa d) (r:d.body=Xa (insCode T B I fO fR)) (h:d.ntmps=95) (b:d.results = #[.tmp 6])
  (base:Option Addr) (n c:Nat) (j:Option Addr) (m vc:Nat) (w l:World) (o:Value) (x:0 < m) (s:n≤c)
  (p:∀ ty,(Builtin.append_ #[T,T] ty #[.slice base n c,.slice j m vc]).run P w = .ok o l) :
  Calls P f #[.slice base n c,.int .i64 n,.slice j m vc] w fun e' w'=>e' = .returned o∧w'=l:=by
 have i:=L.mixed;have y:=L.tT;have A:=L.tI;have C:=L.tB;have D:=run_underlying L.tT;have E:=run_underlying L.tI;have G:=run_underlying L.tB;have t:∀ w,(Go.sizeOf e).run P w = .ok k w:=fun w=>by rw [Zt L.ie];rw [ZF L.ie,L.sz]
 have u:¬ ((m:Int)=0):=by omega
 refine calls_of_wp q r ?_;rw [h];simp only [Up,XO,Ui,Nat.reduceAdd,Nat.reduceSub,TJ,TK,TL,TM,X9,X8];unfold insCode
 cases base with
 | none =>
  go_wp2_with (at_builtin;refine Lib.wpList_append_run _ rfl _ _ _ _ rfl _ _ rfl rfl _ _ (p _) ?_)
  refine bodyPost_ret (results_tmp b _ _ _) rfl ?_;exact ⟨rfl,rfl⟩
 | some a =>
  obtain ⟨H,J,v⟩:=a
  go_wp2_with (at_builtin;refine Lib.wpList_append_run _ rfl _ _ _ _ rfl _ _ rfl rfl _ _ (p _) ?_)
  all_goals
   refine bodyPost_ret (results_tmp b _ _ _) rfl ?_;exact ⟨rfl,rfl⟩
def VM (U:List Value) (zc:Array Value) (k n m i G:Nat):Array Value:=(U.take (i*k)).toArray++Builtin.zeroCells zc (n+m-i)++Builtin.zeroCells zc (G-(n+m))
def Vc (R vs:List Value) (k m i:Nat):List Value:=R.take (i*k)++vs++R.drop (i*k+m*k)
def ZcS (R U:List Value) (k n m i:Nat):List Value:=R.take (i*k+m*k)++(U.drop (i*k)).take ((n-i)*k)++R.drop (i*k+m*k+(n-i)*k)
def Zbf {U:List Value} {zc:Array Value} {k n m i G:Nat} (a:zc.size=k) (c:i≤n) (d:n+m≤G) (b:i*k≤U.length):(VM U zc k n m i G).size=G*k:=by
 simp only [VM,Array.size_append,Up,Xu,size_zeroCells,a];rw [Nat.min_eq_left b,← XY,← XY];congr 1;omega
set_option maxHeartbeats 4000000 in
set_option maxRecDepth 100000 in
def Zoc {T B I:TypeId} {fO fR:FuncId} {e:TypeId} {g:TypeInfo} {z:Value} {k:Nat} (L:Zcy P T B I fO e g z k) {f:FuncId} {fn:Func} (hf:P.funcs[f]? = Xa fn) (hb:fn.body=Xa (insCode T B I fO fR)) (ag:fn.ntmps=95) (ah:fn.results = #[.tmp 6])
  (b n c i u m vc:Nat) (a d:Array Value) (w:World) (hi:i < n) (hm:0 < m) (ai:n≤c) (H:c < n+m) (S:(n+m)*g.bytes≤140737488355328) (ar:n+m≤4611686018427387904)
  (hg:w.heap[b]? = Xa (.cells a e (0,0))) (U:a.size=c*k) (J:w.heap[u]? = Xa (.cells d e (0,0))) (X:d.size=vc*k) (aj:m≤vc)
  (Y:∀ v∈a.toList.take (n*k),v.oneCell'=Xc) (Z:∀ v∈d.toList.take (m*k),v.oneCell'=Xc) :
  Calls P f #[.slice (Xa ⟨b,0,Xe⟩) n c,.int .i64 i,.slice (Xa ⟨u,0,Xe⟩) m vc] w fun e' w'=>
   ∃ G,n+m≤G∧G≤maxLen∧e' = .returned (.slice (Xa ⟨w.heap.size,0,Xe⟩) (n+m) G)∧
    w'=(((w.drew.alloc (.cells (VM a.toList z.cells k n m i G) e)).setRow w.heap.size (Vc (VM a.toList z.cells k n m i G).toList (d.toList.take (m*k)) k m i).toArray).drew).setRow w.heap.size
     (ZcS (Vc (VM a.toList z.cells k n m i G).toList (d.toList.take (m*k)) k m i) a.toList k n m i).toArray:=by
 have ak:=L.mixed;have t0:=L.tT;have t1:=L.tI;have t2:=L.tB;have u0:=run_underlying L.tT;have u1:=run_underlying L.tI;have u2:=run_underlying L.tB;have au:∀ w,(Go.sizeOf e).run P w = .ok k w:=fun w=>by rw [Zt L.ie];rw [ZF L.ie,L.sz]
 have hk:=L.pos;have av:¬ ((m:Int)=0):=by omega
 have aw:¬ ((i:Int)=(n:Int)):=by omega
 have ax:(c:Int) < (n:Int)+(m:Int):=by omega
 have ay:(n+m)*k=n*k+m*k:=XY _ _ _;have az:(i+m)*k=i*k+m*k:=XY _ _ _;have al:(n-i)*k=n*k-i*k:=UZ _ _ _;have a0:i*k≤n*k:=XP _ (by omega);have a1:n*k≤c*k:=XP _ ai;have a2:m*k≤vc*k:=XP _ aj;have r:a.toList.length=c*k:=by simpa using U
 have aa:d.toList.length=vc*k:=by simpa using X
 have am:i≤n:=by omega
 have ab:b < w.heap.size:=(UF.1 hg).1;have an:u < w.heap.size:=(UF.1 J).1;have ac:(n:Int)+(m:Int)-(i:Int)=((n+m-i:Nat):Int):=by omega
 have M:i+(n+m-i)=n+m:=by omega
 obtain ⟨G,hG⟩:∃ G,G=grownCap w (n+m) c e:=⟨_,rfl⟩;have N:n+m≤G:=by rw [hG];exact grownCap_ge w _ _ _
 have ad:G≤maxLen:=by rw [hG];exact grownCap_le_maxLen w (n+m) c e (by unfold maxLen;omega)
 have ap:G≤9223372036854775807:=by unfold maxLen at ad;omega
 have a3:(n+m)*k≤G*k:=XP _ N;obtain ⟨R0,s⟩:∃ R0,R0=VM a.toList z.cells k n m i G:=⟨_,rfl⟩;have p:R0.size=G*k:=by rw [s];exact Zbf L.zsz am N (by rw [r];omega)
 have y:R0.toList.length=G*k:=by simpa using p
 have A:(Builtin.firstCells g.size i (.slice (Xa ⟨b,0,Xe⟩) i c)).run P w.drew = .ok (a.toList.take (i*k)).toArray w.drew:=by
  rw [L.sz]
  exact run_firstCells_some w.drew k i ⟨b,0,Xe⟩ i c (a.toList.take (i*k)) (by rw [Xu,r];omega) (V7 (w:=w.drew) hg fun j v o=>by
   rw [XI] at o;split at o
   ·simpa using o
   ·cases o)
 have ao:∀ ty,(Builtin.append_ #[T,I] ty #[.slice (Xa ⟨b,0,Xe⟩) i c,.int .i64 ((n:Int)+(m:Int)-(i:Int))]).run P w =
   .ok (.slice (Xa ⟨w.heap.size,0,Xe⟩) (n+m) G) (w.drew.alloc (.cells R0 e)):=fun ty=>by
  have a4:(n+m-i)*g.bytes≤(n+m)*g.bytes:=XP _ (by omega);have h:=Lib.run_append_grow_zeros w T I ty e g z .i64 .i64 L.tT L.tI L.ie L.zero (Xa ⟨b,0,Xe⟩) i c (a.toList.take (i*k)) A (n+m-i) (by omega) (by rw [L.sz];exact hk) (by omega) (by omega) (by omega) (by rw [M];exact growslice_fits H S);rw [M,← hG] at h;rw [ac,h,s];rfl
 obtain ⟨R1,t⟩:∃ R1,R1=Vc R0.toList (d.toList.take (m*k)) k m i:=⟨_,rfl⟩;have l:(d.toList.take (m*k)).length=m*k:=by rw [Xu,aa];omega
 have C:R1.length=G*k:=by
  rw [t];simp only [Vc,XD,l,Xu,XV,y];omega
 have D:∀ W,W.heap[w.heap.size]? = Xa (.cells R0 e (0,0))→W.heap[u]? = w.heap[u]?→∀ ty O,(Builtin.copy_ #[T,T] ty #[.slice (Xa ⟨w.heap.size,i*k,Xe⟩) (n+m-i) O,.slice (Xa ⟨u,0,Xe⟩) m vc]).run P W = .ok (goInt m) (W.setRow w.heap.size R1.toArray):=fun W h1 h2 ty O=>by
  have:=Y7 (P:=P) W T T ty e g w.heap.size (i*k) (n+m-i) O ⟨u,0,Xe⟩ m vc m R0 e (d.toList.take (m*k)) L.tT L.ie h1 (by simp only [Nat.min_def];split<;>omega) (by rw [l,L.sz])
   (V7 (w:=W) (h2.trans J) fun j v o=>by
    rw [XI] at o;split at o
    ·simpa using o
    ·cases o)
   (by rw [l,p];omega) Z
  rw [l] at this;rw [this,t];rfl
 have E:∀ W,W.heap[w.heap.size]? = Xa (.cells R1.toArray e (0,0))→W.heap[b]? = w.heap[b]?→∀ ty O sc,(Builtin.copy_ #[T,T] ty #[.slice (Xa ⟨w.heap.size,i*k+m*k,Xe⟩) (n+m-(i+m)) O,.slice (Xa ⟨b,i*k,Xe⟩) (n-i) sc]).run P W = .ok (goInt ((n-i:Nat):Int)) (W.setRow w.heap.size (ZcS R1 a.toList k n m i).toArray):=fun W h1 h2 ty O sc=>by
  have q:((a.toList.drop (i*k)).take ((n-i)*k)).length=(n-i)*k:=by rw [Xu,XV,r];omega
  have:=Y7 (P:=P) W T T ty e g w.heap.size (i*k+m*k) (n+m-(i+m)) O ⟨b,i*k,Xe⟩ (n-i) sc (n-i) R1.toArray e ((a.toList.drop (i*k)).take ((n-i)*k)) L.tT L.ie h1 (by simp only [Nat.min_def];split<;>omega) (by rw [q,L.sz])
   (V7 (w:=W) (h2.trans hg) fun j v o=>by
    rw [XI] at o;split at o
    ·rw [X4] at o;simpa using o
    ·cases o)
   (by rw [q,Up,C];omega) (fun v hv=>Y v (by
    rw [al,← List.drop_take] at hv;exact XR hv))
  rw [q] at this;exact this
 have ae:(w.drew.alloc (.cells R0 e)).heap[w.heap.size]? = Xa (.cells R0 e (0,0)):=Y6 w.drew R0 e;have af:∀ x,x < w.heap.size→(w.drew.alloc (.cells R0 e)).heap[x]? = w.heap[x]?:=fun x hx=>heap_alloc_old w.drew _ hx;have Q:=D (w.alloc (.cells R0 e)).drew ae (af u an)
 have R:=E ((w.alloc (.cells R0 e)).drew.setRow w.heap.size R1.toArray).drew (Ym ae) (by
  have:((w.drew.alloc (.cells R0 e)).setRow w.heap.size R1.toArray).heap[b]? = (w.drew.alloc (.cells R0 e)).heap[b]?:=by simp [World.setRow,TX,Nat.ne_of_gt ab]
  exact this.trans (af b ab))
 have a5:IntKind.i64.wrap ((i:Int)+(m:Int))=(i:Int)+(m:Int):=by rw [Tv];omega
 have a6:IntKind.i64.wrap ((n:Int)+(m:Int))=(n:Int)+(m:Int):=by rw [Tv];omega
 have a7:IntKind.i64.wrap ((n:Int)+(m:Int)-(i:Int))=(n:Int)+(m:Int)-(i:Int):=by rw [Tv];omega
 have a8:(0:Int)≤(i:Int)+(m:Int):=by omega
 have a9:((i:Int)+(m:Int)).toNat=i+m:=by omega
 have ba:(i:Int)≤(n:Int):=by omega
 have bb:(i:Int)≤(n:Int)+(m:Int):=by omega
 have bc:¬ (G=i):=by omega
 have aq:¬ (G=i+m):=by omega
 have bd:¬ (c=i):=by omega
 refine Calls.mono ?_ (fun e' w' h=>⟨G,N,ad,h⟩);rw [← s,← t];clear D E A hg J U r X Y Z s t hG aa p y C l ac M;refine calls_of_wp hf hb ?_;rw [ag];simp only [Up,XO,Ui,Nat.reduceAdd,Nat.reduceSub,TJ,TK,TL,TM,X9,X8];unfold insCode
 go_wp2_with (first
  | (at_builtin; refine Lib.wpList_append_run _ rfl _ _ _ _ rfl _ _ rfl rfl _ _ (ao _) ?_)
  | (at_builtin; refine Vp _ rfl _ _ T T rfl _ _ rfl rfl (Q _ _) ?_))
 go_region_law_o (refine Wj rfl _ _ T T rfl _ _ (by simp [Act.eval,Act.put]) (by simp [Act.eval,Act.put]) (R _ _ _) ?_)
 go_wp2
 refine bodyPost_ret (results_tmp ah _ _ _) rfl ?_;exact ⟨rfl,rfl⟩
def delCode (T B I U:TypeId):Code:=
  (.seq (.region 0 #[
    ⟨Xa 6, .assign (.const (.slice Xe 0 0)), T, "slices.go:224", #[], Xe⟩] Xb)
  (.seq (.region 1 #[
    ⟨Xa 8, .move (.tmp 0), T, "slices.go:225", #[], Xe⟩,
    ⟨Xa 9, .move (.tmp 1), I, "slices.go:225", #[], Xe⟩,
    ⟨Xa 10, .move (.tmp 2), I, "slices.go:225", #[], Xe⟩,
    ⟨Xa 11, .move (.tmp 0), T, "slices.go:225", #[], Xe⟩,
    ⟨Xa 12, .call ⟨.builtin .len, #[(.tmp 11)], #[T]⟩, I, "slices.go:225", #[⟨3, .data⟩], Xe⟩,
    ⟨Xa 13, .slice T (.tmp 8) (Xa (.tmp 9)) (Xa (.tmp 10)) (Xa (.tmp 12)), T, "slices.go:225", #[⟨0, .data⟩, ⟨1, .data⟩, ⟨2, .data⟩, ⟨4, .data⟩], Xe⟩] Xb)
  (.seq (.seq (.region 2 #[
    ⟨Xa 14, .move (.tmp 1), I, "slices.go:227", #[], Xe⟩,
    ⟨Xa 15, .move (.tmp 2), I, "slices.go:227", #[], Xe⟩,
    ⟨Xa 16, .binOp .eql I (.tmp 14) (.tmp 15) I, B, "slices.go:227", #[⟨0, .data⟩, ⟨1, .data⟩], Xe⟩] Xb)
  (.cond (.tmp 16)
   (.seq (.region 3 #[
     ⟨Xa 17, .move (.tmp 0), T, "slices.go:228", #[], Xe⟩,
     ⟨Xa 6, .assign (.tmp 17), T, "slices.go:228", #[⟨0, .data⟩, ⟨0, .phase⟩], Xe⟩] Xb)
   .ret)
   .skip))
  (.seq (.region 4 #[
    ⟨Xa 18, .move (.tmp 0), T, "slices.go:231", #[], Xe⟩,
    ⟨Xa 19, .call ⟨.builtin .len, #[(.tmp 18)], #[T]⟩, I, "slices.go:231", #[⟨0, .data⟩], Xe⟩,
    ⟨Xa 7, .assign (.tmp 19), I, "slices.go:231", #[⟨1, .data⟩, ⟨0, .phase⟩, ⟨1, .phase⟩], Xe⟩] Xb)
  (.seq (.region 5 #[
    ⟨Xa 20, .move (.tmp 0), T, "slices.go:232", #[], Xe⟩,
    ⟨Xa 21, .move (.tmp 1), I, "slices.go:232", #[], Xe⟩,
    ⟨Xa 22, .slice T (.tmp 20) Xe (Xa (.tmp 21)) Xe, T, "slices.go:232", #[⟨0, .data⟩, ⟨1, .data⟩], Xe⟩,
    ⟨Xa 23, .move (.tmp 0), T, "slices.go:232", #[], Xe⟩,
    ⟨Xa 24, .move (.tmp 2), I, "slices.go:232", #[], Xe⟩,
    ⟨Xa 25, .slice T (.tmp 23) (Xa (.tmp 24)) Xe Xe, T, "slices.go:232", #[⟨3, .data⟩, ⟨4, .data⟩], Xe⟩,
    ⟨Xa 26, .call ⟨.builtin .append, #[(.tmp 22), (.tmp 25)], #[T, T]⟩, T, "slices.go:232", #[⟨2, .data⟩, ⟨5, .data⟩], Xe⟩,
    ⟨Xa 0, .assign (.tmp 26), T, "slices.go:232", #[⟨6, .data⟩, ⟨6, .chain⟩, ⟨0, .phase⟩, ⟨1, .phase⟩, ⟨2, .phase⟩, ⟨3, .phase⟩, ⟨4, .phase⟩, ⟨5, .phase⟩, ⟨6, .phase⟩], Xe⟩] Xc)
  (.seq (.region 6 #[
    ⟨Xa 27, .move (.tmp 0), T, "slices.go:233", #[], Xe⟩,
    ⟨Xa 28, .move (.tmp 0), T, "slices.go:233", #[], Xe⟩,
    ⟨Xa 29, .call ⟨.builtin .len, #[(.tmp 28)], #[T]⟩, I, "slices.go:233", #[⟨1, .data⟩], Xe⟩,
    ⟨Xa 30, .move (.tmp 7), I, "slices.go:233", #[], Xe⟩,
    ⟨Xa 31, .slice T (.tmp 27) (Xa (.tmp 29)) (Xa (.tmp 30)) Xe, T, "slices.go:233", #[⟨0, .data⟩, ⟨2, .data⟩, ⟨3, .data⟩], Xe⟩,
    ⟨Xe, .call ⟨.builtin .clear, #[(.tmp 31)], #[T]⟩, U, "slices.go:233", #[⟨4, .data⟩], Xe⟩] Xb)
  (.seq (.region 7 #[
    ⟨Xa 32, .move (.tmp 0), T, "slices.go:234", #[], Xe⟩,
    ⟨Xa 6, .assign (.tmp 32), T, "slices.go:234", #[⟨0, .data⟩, ⟨0, .phase⟩], Xe⟩] Xb)
  .ret)))))))
def KK (w:World) {ops:Array Oper} {b:List Oper} {o:Oper} {a:Act} {Q:Exit→Act→World→Prop} (c:o.guard=Xe) (d:Operand) (t:TypeId)
  (f:o.op = .call { callee:=.builtin .clear,args:=#[d],argTypes:=#[t] }) (v:Value) (g:a.eval d=v) {e:Value} {w':World}
  (i:(Builtin.clear_ #[t] o.type #[v]).run P w = .ok e w') (h:wpList P ops Q b (a.put o.dst e) w'):wpList P ops Q (o::b) a w:=
 wpList_plain c fun _ j=>by
  unfold Oper.wp execOp;simp only [f,resolve,invoke,builtin,Sem.run_bind,Sem.run_pure,Result.andThen_ok,UQ,Xn,X5,g,i];exact j _ _ h
def Vo {ops:Array Oper} {o:Oper} {a:Act} {w:World} {K:Act→World→Prop} {Q:Exit→Act→World→Prop} {E:Prop}
  (g:o.guard=Xe) (d x:Operand) (c e:TypeId) (b:o.op=Op.call { callee:=Callee.builtin Builtin.append,args:=#[d,x],argTypes:=#[c,e] })
  (v u:Value) (h:a.eval d=v) (i:a.eval x=u) {f:Value} {w':World} (j:(Builtin.append_ #[c,e] o.type #[v,u]).run P w = .ok f w') (k:K (a.put o.dst f) w') :
  if Region.wanted o (yielded ops a.tmps)=Xc then Oper.wp P o a w K Q else E:=by
 have l:Region.wanted o (yielded ops a.tmps)=Xc:=by simp [Region.wanted,g]
 rw [P4 l];unfold Oper.wp;simp [execOp,b,resolve,invoke,builtin,h,i,j,Result.andThen];exact k
def J9 (U:List Value) (k n i j:Nat):List Value:=U.take (i*k)++(U.drop (j*k)).take ((n-j)*k)++U.drop (i*k+(n-j)*k)
def Zb9 (R:List Value) (zc:List Value) (k n q:Nat):List Value:=R.take (q*k)++(Xv (n-q) zc).flatten++R.drop (q*k+(n-q)*k)
set_option maxHeartbeats 4000000 in
set_option maxRecDepth 100000 in
def Zsj {T B I U e:TypeId} {C:TypeInfo} {z:Value} {k:Nat} (L:Zco P T B I e C z k) {f:FuncId} {R:Func} (hf:P.funcs[f]? = Xa R) (hb:R.body=Xa (delCode T B I U)) (W:R.ntmps=33) (D:R.results = #[.tmp 6])
  (b n c i j:Nat) (a:Array Value) (w:World) (aj:i < j) (X:j≤n) (Y:n≤c) (ah:c≤9223372036854775807) (S:w.heap[b]? = Xa (.cells a e (0,0))) (s:a.size=c*k)
  (E:∀ v∈a.toList.take (n*k),v.oneCell'=Xc) (G:∀ v∈z.cells.toList,v.oneCell'=Xc) :
  Calls P f #[.slice (Xa ⟨b,0,Xe⟩) n c,.int .i64 i,.int .i64 j] w fun e' w'=>
   e' = .returned (.slice (Xa ⟨b,0,Xe⟩) (i+(n-j)) c)∧w'=(w.drew.setRow b (J9 a.toList k n i j).toArray).setRow b (Zb9 (J9 a.toList k n i j) z.cells.toList k n (i+(n-j))).toArray:=by
 have Z:=L.mixed;have t0:=L.tT;have t1:=L.tI;have t2:=L.tB;have u0:=run_underlying L.tT;have u1:=run_underlying L.tI;have u2:=run_underlying L.tB;have ak:∀ w,(Go.sizeOf e).run P w = .ok k w:=fun w=>by rw [Zt L.ie];rw [ZF L.ie,L.sz]
 have hk:=L.pos;have H:(n-j)*k=n*k-j*k:=UZ _ _ _;have aa:i*k≤j*k:=XP _ (by omega);have ab:n*k≤c*k:=XP _ Y;have ac:j*k≤n*k:=XP _ X;have x:(i+(n-j))*k=i*k+(n-j)*k:=XY _ _ _;have J:(n-(i+(n-j)))*k=n*k-(i+(n-j))*k:=UZ _ _ _;have y:a.toList.length=c*k:=by simpa using s
 have q:(J9 a.toList k n i j).length=c*k:=by simp only [J9,XD,Xu,XV,y];omega
 have d:((a.toList.drop (j*k)).take ((n-j)*k)).length=(n-j)*k:=by rw [Xu,XV,y];omega
 have M:∀ v∈(a.toList.drop (j*k)).take ((n-j)*k),v.oneCell'=Xc:=fun v hv=>E v (by
    rw [H,← List.drop_take] at hv;exact XR hv)
 have N:∀ (A:Addr) sc ty,(n-j≠0→A=⟨b,j*k,Xe⟩)→(Builtin.append_ #[T,T] ty #[.slice (Xa ⟨b,0,Xe⟩) i c,.slice (Xa A) (n-j) sc]).run P w.drew = .ok (.slice (Xa ⟨b,0,Xe⟩) (i+(n-j)) c) (w.drew.setRow b (J9 a.toList k n i j).toArray):=fun A sc ty hA=>by
  have:=run_append_room (P:=P) w.drew T ty e C L.tT L.ie b i c a S A (n-j) sc ((a.toList.drop (j*k)).take ((n-j)*k)) (by rw [d,L.sz]) (fun t u r=>by
    have O:=(Xx.1 r).1;rw [d] at O
    have ad:n-j≠0:=by
     intro h;rw [h] at O;omega
    rw [hA ad];refine V7 (w:=w.drew) S (l:=(a.toList.drop (j*k)).take ((n-j)*k)) (fun t u r=>?_) t u r;rw [XI] at r;split at r
    ·rw [X4] at r;simpa using r
    ·cases r) M (by omega) (by rw [d,s,L.sz];omega)
  rw [d,L.sz] at this;exact this
 obtain ⟨p,hp⟩:∃ p,n-(i+(n-j))=p+1:=⟨n-(i+(n-j))-1,by omega⟩
 have g:∀ ty cc,(Builtin.clear_ #[T] ty #[.slice (Xa ⟨b,(i+(n-j))*k,Xe⟩) (n-(i+(n-j))) cc]).run P (w.drew.setRow b (J9 a.toList k n i j).toArray) = .ok (.tuple #[]) ((w.drew.setRow b (J9 a.toList k n i j).toArray).setRow b (Zb9 (J9 a.toList k n i j) z.cells.toList k n (i+(n-j))).toArray):=fun ty cc=>by
  have:=Zau (P:=P) (w:=w.drew.setRow b (J9 a.toList k n i j).toArray) (ty:=ty) (o:=i*k+(n-j)*k) (n:=p) (c:=cc) L.tT L.ie L.zero (Ym (w:=w.drew) S) (by
   have hs:(J9 a.toList k n i j).toArray.size=c*k:=by simpa using q
   rw [hs,← hp,L.zsz,J,x];omega) G
  rw [← hp,L.zsz,← x] at this;exact this
 have al:(i:Int)≤(j:Int):=by omega
 have am:(j:Int)≤(n:Int):=by omega
 have an:¬ ((i:Int)=(j:Int)):=by omega
 have ao:(i:Int)≤(n:Int):=by omega
 have ap:(i:Int)+((n:Int)-(j:Int))≤(n:Int):=by omega
 have ae:((i+(n-j):Nat):Int)≤(n:Int):=by omega
 have af:¬ (c=i+(n-j)):=by omega
 have aq:(i:Int)≤(c:Int):=by omega
 have ar:(j:Int)≤(c:Int):=by omega
 have ai:(n:Int)≤(c:Int):=by omega
 obtain ⟨zc,Q⟩:∃ zc,zc=z.cells.toList:=⟨_,rfl⟩;rw [← Q] at g ⊢;clear S s y E G q d M J hp H aa ab ac x Q;refine calls_of_wp hf hb ?_;rw [W];simp only [Up,XO,Ui,Nat.reduceAdd,Nat.reduceSub,TJ,TK,TL,TM,X9,X8];unfold delCode;by_cases hcj:c=j
 ·have ag:n=c:=by omega
  subst ag;subst hcj;have m:=fun ty=>N ⟨b,0,Xe⟩ (n-n) ty (by omega);simp only [Nat.sub_self,Nat.add_zero] at m g af ae ⊢
  go_wp2
  go_region_law_o (refine Vo rfl _ _ T T rfl _ _ (by simp [Act.eval,Act.put]) (by simp [Act.eval,Act.put]) (m _) ?_)
  go_wp2_with (at_builtin;refine KK _ rfl _ T rfl _ rfl (g _ _) ?_)
  refine bodyPost_ret (results_tmp D _ _ _) rfl ?_;exact ⟨rfl,rfl⟩
 ·have m:=fun ty=>N ⟨b,j*k,Xe⟩ (c-j) ty (fun _=>rfl)
  go_wp2
  go_region_law_o (refine Vo rfl _ _ T T rfl _ _ (by simp [Act.eval,Act.put]) (by simp [Act.eval,Act.put]) (m _) ?_)
  go_wp2_with (at_builtin;refine KK _ rfl _ T rfl _ rfl (g _ _) ?_)
  refine bodyPost_ret (results_tmp D _ _ _) rfl ?_;exact ⟨rfl,rfl⟩
def ZaV {a b:Type} (R:a→b→Prop) (A:List a) (B:List b):Prop:=∀ (j:Nat) (z:a) (u:b),A[j]? = Xa z→B[j]? = Xa u→R z u
def ZaV.app {c d:Type} {R:c→d→Prop} {A A':List c} {B B':List d} (e:A.length=B.length) (h:ZaV R A B) (f:ZaV R A' B'):ZaV R (A++A') (B++B'):=by
 intro j z u a b;by_cases hj:j < A.length
 ·rw [XH hj] at a;rw [XH (by omega)] at b;exact h j z u a b
 ·rw [XG (by omega)] at a;rw [XG (by omega),← e] at b;exact f _ z u a b
def ZaV.take {c d:Type} {R:c→d→Prop} {A:List c} {B:List d} (h:ZaV R A B) (n:Nat):ZaV R (A.take n) (B.take n):=by
 intro j z u a b;rw [XI] at a b;split at a
 ·rename_i e;rw [P4 e] at b;exact h j z u a b
 ·cases a
def ZaV.drop {a b:Type} {R:a→b→Prop} {A:List a} {B:List b} (h:ZaV R A B) (n:Nat):ZaV R (A.drop n) (B.drop n):=by
 intro j z u c d;rw [X4] at c d;exact h _ z u c d
def ZaV.cut {b c:Type} {R:b→c→Prop} {A:List b} {B:List c} (h:ZaV R A B) (n:Nat):ZaV R A (B.take n):=by
 intro j z u d a;rw [XI] at a;split at a
 ·exact h j z u d a
 ·cases a
def ZaV.ext {a b:Type} {R:a→b→Prop} {A:List a} {B C:List b} (h:ZaV R A B) (e:A.length≤B.length):ZaV R A (B++C):=by
 intro j z u c d;have:=(Xx.1 c).1;rw [XH (by omega)] at d;exact h j z u c d
def Znx {U vs:List Value} {k n m i:Nat} (a:i≤n) (b:(n+m)*k≤U.length) :
  Zdy U vs k n m i=U.take (i*k)++vs++((U.drop (i*k)).take ((n-i)*k)++U.drop ((i+m)*k+(n-i)*k)):=by
 have c:(i+m)*k=i*k+m*k:=XY _ _ _;have d:(n+m)*k=n*k+m*k:=XY _ _ _;have e:i*k≤n*k:=XP _ a;have f:(U.take ((i+m)*k)).length=i*k+m*k:=by rw [Xu];omega
 unfold Zdy Yi;congr 1
 ·congr 1;rw [XB,Tp (by omega),List.take_take];congr 1;omega
 ·rw [XB,List.drop_append_of_le_length (by omega),List.drop_of_length_le (by omega),X9]
def ZjJ {U vs R:List Value} {k n m i:Nat} (b:vs.length=m*k) (c:i*k+m*k≤R.length) (a:R.take (i*k)=U.take (i*k)) :
  ZcS (Vc R vs k m i) U k n m i=U.take (i*k)++vs++((U.drop (i*k)).take ((n-i)*k)++(Vc R vs k m i).drop (i*k+m*k+(n-i)*k)):=by
 have d:(R.take (i*k)++vs).length=i*k+m*k:=by rw [XD,Xu,b];omega
 unfold ZcS;rw [XB];congr 1;unfold Vc;rw [Tp (by omega),Uc (by omega),a]
def Zj3 {U zc:List Value} {k n i j:Nat} (a:i≤j) (b:j≤n) (c:n*k≤U.length) :
  Zb9 (J9 U k n i j) zc k n (i+(n-j))=U.take (i*k)++(U.drop (j*k)).take ((n-j)*k)++
   ((Xv (n-(i+(n-j))) zc).flatten++(J9 U k n i j).drop ((i+(n-j))*k+(n-(i+(n-j)))*k)):=by
 have d:(i+(n-j))*k=i*k+(n-j)*k:=XY _ _ _;have e:(n-j)*k=n*k-j*k:=UZ _ _ _;have f:i*k≤j*k:=XP _ a;have g:j*k≤n*k:=XP _ b;have h:(U.take (i*k)++(U.drop (j*k)).take ((n-j)*k)).length=(i+(n-j))*k:=by rw [XD,Xu,Xu,XV];omega
 unfold Zb9;rw [XB];congr 1;unfold J9;rw [Tp (by omega),Uc (by omega)]
def Zeh {w:World} {lim:Nat→Nat} {x:Bool} {e:TypeId} {xs:List (List AV)} {v:Value} {ob:Option Nat} (h:Jt P w lim x e xs v ob) (a:xs≠[]) (c:Zv P e=Xb) :
  ∃ b arr cap,ob=Xa b∧v = .slice (Xa ⟨b,0,Xe⟩) xs.length cap∧w.heap[b]? = Xa (.cells arr e (0,0))∧xs.length≤cap∧cap≤maxLen∧arr.size=cap*P.cellsOf e∧
   (∀ x∈xs,x.length=P.cellsOf e)∧(∀ x∈xs,∀ z∈x,z.isCell=Xc)∧ZaV (Rep w lim) xs.flatten arr.toList∧(∀ b',ob=Xa b'→x=Xc→lim b'=0):=by
 rcases h.noMap c with ⟨us,h1,h2,h3,h4,h5,h6⟩ | ⟨h,_⟩
 ·rcases h1.2 with ⟨hv,hn⟩ | ⟨g,cap,cur,hv,hbg,hg,hnc,hcm,hcs,htake⟩
  ·exact (a (List.eq_nil_of_length_eq_zero hn)).elim
  ·refine ⟨g,cur,cap,by rw [← h2,hv];rfl,hv,hg,hnc,hcm,hcs,h4,h5,fun j z u f k=>h6 j z u f ?_,fun b' d l=>by rw [h3 b' d,P4 l]⟩;have i:=(Xx.1 f).1;rw [Zs xs _ h4] at i;rw [← htake,XI,P4 i];exact k
 ·exact (a h).elim
def Zep {w:World} {lim:Nat→Nat} {xs:List (List AV)} {us:List Value} (d:∀ x∈xs,∀ z∈x,z.isCell=Xc) (h:ZaV (Rep w lim) xs.flatten us) (k:us.length≤xs.flatten.length):∀ v∈us,v.oneCell'=Xc:=by
 intro v e;obtain ⟨j,c⟩:=List.mem_iff_getElem?.1 e;have f:=(Xx.1 c).1;have g:=List.getElem?_eq_getElem (l:=xs.flatten) (i:=j) (by omega);obtain ⟨y,a,b⟩:=List.mem_flatten.1 (List.getElem_mem (l:=xs.flatten) (n:=j) (by omega));exact (h j _ v g c).oneCell (d y a _ b)
def Jc.trans {w e f:World} {l g i:Nat→Nat} {S S1 S2:Nat→Prop} (h:Jc w l e g S1) (c:Jc e g f i S2) (m:∀ b,S1 b→S b) (n:∀ b,S2 b→S b∨w.heap.size≤b):Jc w l f i S where
 os:=c.os.trans h.os
 tape:=c.tape.trans h.tape
 output:=c.output.trans h.output
 size:=XN h.size c.size
 frz a ha:=(c.frz a (Uj ha h.size)).trans (h.frz a ha)
 blk b hb hn:=by
  have j:=h.blk b hb fun d=>hn (m b d);have k:=c.blk b (Uj hb h.size) fun d=>(n b d).elim hn (fun h=>by omega);exact ⟨k.1.trans j.1,k.2.trans j.2⟩
 ext:=h.ext.trans c.ext h.size
def Zdv (x:Bool) {f:FuncId} {args:List AV} {e:TypeId} {zs:List (List AV)} (J:Callable P f) (r:Zv P e=Xb)
  (h:∀ (w:World) (lim:Nat→Nat) (X:Nat→Nat→Option Nat) (c:List Value),c.length≤args.length→(∀ i,Z2 P w lim X (Z5 args) i (Z5 args i) (c.getD i undef))→ZlZ X→(∀ i k b,X i k=Xa b→b < w.heap.size)→
   Calls P f c.toArray w fun e' w'=>∃ v a m,e' = .returned v∧Jt P w' a Xc e zs v m∧Jc w lim w' a (fun b=>∃ i k,X i k=Xa b)∧∀ b,m=Xa b→b < w'.heap.size∧(((∃ i k,X i k=Xa b)∧lim b=0)∨w.heap.size≤b)) :
  J2 P f args (.own x e zs) (Xv args.length .dead):=by
 refine ⟨J,fun w lim X c W y L M=>?_⟩;refine (h w lim X c (by omega) y L M).mono ?_;rintro e' w' ⟨v,j,m,N,n,g,s⟩
 have O:∃ a,Jt P w' a x e zs v m∧Jc w lim w' a (fun b=>∃ i k,X i k=Xa b):=by
  cases x
  case true=>exact ⟨j,n,g⟩
  case false=>
   cases m with
   | none =>
    refine ⟨j,?_,g⟩;rcases n.noMap r with ⟨us,l,t,h3,h4,h5,h6⟩ | h
    ·exact .inl ⟨us,l,t,fun b p=>(by cases p),h4,h5,h6⟩
    ·exact .inr (.inl h)
   | some b0 =>
    have A:j b0=0:=by
     rcases n.noMap r with ⟨us,l,t,h3,_⟩ | ⟨_,h,_⟩
     ·rw [h3 b0 rfl];rfl
     ·cases h
    have C:=s b0 rfl
    have q:Ext w' j w' (Vv j b0 (zs.length*P.cellsOf e)):=fun b _=>by
     refine ⟨?_,fun o u _ Q=>Q⟩;unfold Vv;split
     ·rename_i h;rw [h,A];exact Nat.zero_le _
     ·exact Xt _
    refine ⟨_,ZcC n r q,⟨g.os,g.tape,g.output,g.size,g.frz,fun b p E=>?_,g.ext.trans q g.size⟩⟩;obtain ⟨R,S⟩:=g.blk b p E;refine ⟨R,?_⟩
    have D:b≠b0:=by
     rintro rfl;rcases C.2 with l | l
     ·exact E l.1
     ·omega
    show (if b=b0 then _ else j b)=lim b;rw [P3 D];exact S
 obtain ⟨a,T,U⟩:=O;have p:∀ b,m=Xa b→b < w'.heap.size∧((∃ i k,X i k=Xa b)∨w.heap.size≤b):=fun b p=>⟨(s b p).1,(s b p).2.imp (·.1) id⟩
 have z:∀ i,Z5 (Xv args.length AV.dead++[.own x e zs]) i=if i=args.length then .own x e zs else .dead:=by
  intro i;unfold Z5;by_cases hi:i < args.length
  ·rw [XH (by simpa using hi),List.getElem?_replicate,P4 hi,P3 (by omega)];rfl
  ·rw [XG (by simpa using hi),List.length_replicate];by_cases hi2:i=args.length
   ·subst hi2;rw [P4 rfl,Nat.sub_self];rfl
   ·rw [P3 hi2,List.getElem?_eq_none (by simp;omega)];rfl
 refine ⟨v,a,fun i k=>if i=args.length∧k=0 then m else Xe,N,U,by simp,fun i=>?_,?_,?_,?_⟩
 ·rw [z];by_cases hi:i=args.length
  ·subst hi;rw [P4 rfl];show Jt P w' a x e zs _ _;unfold ZaO;rw [P4 rfl];show Jt P w' a x e zs _ (if args.length=args.length∧0=0 then m else Xe);rw [P4 ⟨rfl,rfl⟩];exact T
  ·rw [P3 hi];trivial
 ·intro d k Y Z b l t;dsimp only at l t;split at l
  ·split at t
   ·rename_i G H;exact ⟨G.1.trans H.1.symm,G.2.trans H.2.symm⟩
   ·cases t
  ·cases l
 ·intro i k b l;dsimp only at l;split at l
  ·exact p b l
  ·cases l
 ·intro i l;rw [z] at l;split at l<;>simp [AV.isG] at l
def Zlb {w:World} {lim:Nat→Nat} {e:TypeId} {xs:List (List AV)} {v:Value} {ob:Option Nat} {b:Nat} (h:Jt P w lim Xc e xs v ob) (a:ob=Xa b):lim b=0:=by
 rcases h with ⟨us,h1,h2,h3,_⟩ | ⟨_,h,_⟩ | ⟨_,_,b',_,_,_,_,_,h,_,_,hl,_⟩
 ·rw [h3 b a];rfl
 ·rw [h] at a;cases a
 ·rw [h] at a;cases a;exact hl
def Zdr {a:List Value} (b:a.length≤3) (h:a.getD 2 undef≠undef):a.toArray = #[a.getD 0 undef,a.getD 1 undef,a.getD 2 undef]:=by
 match a,b,h with
 | [], _, h => exact (h rfl).elim
 | [_], _, h => exact (h rfl).elim
 | [_, _], _, h => exact (h rfl).elim
 | [_, _, _], _, _ => rfl
 | _ :: _ :: _ :: _ :: _, b, _ => simp at b
def arg_int {w:World} {lim:Nat→Nat} {X:Nat→Nat→Option Nat} {σ:Nat→AV} {d:Nat} {k:IntKind} {z:Int} {v:Value} (h:Z2 P w lim X σ d (.val (.int k z)) v):v = .int k z:=VQ (show Rep w lim _ v from h)
structure ZxI (P:Program) (T B I:TypeId) (fO fR:FuncId) (f:FuncId):Prop where
 fn : ∃ fn, P.funcs[f]? = Xa fn ∧ fn.body = Xa (insCode T B I fO fR) ∧ fn.ntmps = 95 ∧ fn.results = #[.tmp 6] ∧ (fn.name == "runtime.NumGoroutine") = Xb
def Zu1 (x:Bool) {T B I:TypeId} {fO fR:FuncId} {e:TypeId} {D:TypeInfo} {z:Value} {k:Nat} (L:Zcy P T B I fO e D z k) {f:FuncId} (hF:ZxI P T B I fO fR f) {xs d:List (List AV)} {i:Int}
  (h0:0≤i) (hi:i.toNat≤xs.length) (a2:d≠[]) (t:(xs.length+d.length)*(D.bytes+1)≤Jr) :
  J2 P f [.own Xc e xs,.val (.int .i64 i),.own Xb e d] (.own x e (xs.take i.toNat++d++xs.drop i.toNat)) [.dead,.dead,.dead]:=by
 obtain ⟨fn,hf,J,aj,ak,al⟩:=hF.fn;have M:P.cellsOf e=k:=by rw [ZF L.ie,L.sz]
 have b0:xs.length+d.length≤1099511627776:=by
  have:(xs.length+d.length)*1≤(xs.length+d.length)*(D.bytes+1):=Tc _ (by omega);unfold Jr at t;omega
 have b1:(xs.length+d.length)*D.bytes≤1099511627776:=by
  have:(xs.length+d.length)*D.bytes≤(xs.length+d.length)*(D.bytes+1):=Tc _ (by omega);unfold Jr at t;omega
 have am:0 < d.length:=List.length_pos_iff.2 a2;refine Zdv x (args:=[.own Xc e xs,.val (.int .i64 i),.own Xb e d]) ⟨fn,hf,al,by rw [J];rfl⟩ L.nm fun w lim X A hl N an O=>?_;have r0:Jt P w lim Xc e xs (A.getD 0 undef) (X 0 0):=N 0;have r1:=arg_int (N 1);have r2:Jt P w lim Xb e d (A.getD 2 undef) (X 2 0):=N 2;obtain ⟨vb,m,vc,bi,W,a3,ao,bz,Y,ap,a4,bj,_⟩:=Zeh r2 a2 L.nm;have aq:=Jt.rep r2 Xb rfl;rw [Zdr hl (by rw [W];simp [undef]),r1];have bk:i=((i.toNat:Nat):Int):=by omega
 rw [bk];obtain ⟨q,hq⟩:∃ q,q=i.toNat:=⟨_,rfl⟩;have bm:(((i.toNat:Nat):Int)).toNat=q:=by omega
 rw [bm,← hq];rw [← hq] at hi;by_cases hend:q=xs.length
 ·obtain ⟨v',w',a5,bn,ag,ho,r,bo⟩:=KN (ty:=T) L.tT L.ie L.zero (by rw [L.zsz,L.sz]) r0 (.of aq) t L.nm
  have Z:∃ base cap,A.getD 0 undef = .slice base xs.length cap∧xs.length≤cap:=by
   rcases r0.noMap L.nm with ⟨us,hr,_⟩ | ⟨rfl,_,a,hv⟩
   ·rcases hr.2 with ⟨hv,hn⟩ | ⟨g,cap,l,hv,_,_,ab,_⟩
    ·exact ⟨Xe,0,by rw [hv,hn],by omega⟩
    ·exact ⟨_,cap,hv,ab⟩
   ·exact ⟨_,0,hv,Xt _⟩
  obtain ⟨base,cap,aa,bp⟩:=Z;rw [hend,aa,W];rw [aa,W] at ag;have bq:∀ ty,(Builtin.append_ #[T,T] ty #[.slice base xs.length cap,.slice (Xa ⟨vb,0,Xe⟩) d.length vc]).run P w = .ok v' w':=fun ty=>ag;refine (Zsq L hf J aj ak base xs.length cap _ d.length vc w w' v' am bp bq).mono ?_;rintro e' b2 ⟨rfl,rfl⟩;refine ⟨v',a5,bn,rfl,by rw [List.take_length,List.drop_length,List.append_nil];exact ho,⟨r.os,r.tape,r.output,r.size,r.frz,fun b J hn=>r.blk b J fun h=>hn ⟨0,0,h⟩,r.ext⟩,fun b J=>?_⟩;rcases bo with h | h
  ·rw [h] at J;exact ⟨Uj (O 0 0 b J) r.size,.inl ⟨⟨0,0,J⟩,Zlb r0 J⟩⟩
  ·subst h
   cases J
   rcases ho.noMap L.nm with ⟨us,g1,g2,_⟩ | ⟨_,h,_⟩
   ·exact ⟨(g1.lt _ g2).2,.inr (Xt _)⟩
   ·cases h
 ·have ar:q < xs.length:=by omega
  have br:xs≠[]:=by rintro rfl;simp at ar
  obtain ⟨b,l,c,E,aa,hg,ab,a6,ac,H,au,av,a7⟩:=Zeh r0 br L.nm;have ad:lim b=0:=a7 b E rfl
  have bs:vb≠b:=by
   rintro rfl;have:=(an 0 0 2 0 vb E bi).1;omega
  rw [M] at ac Y H ap;have ae:xs.flatten.length=xs.length*k:=Zs xs k H;have a8:d.flatten.length=d.length*k:=Zs d k ap;have p:l.toList.length=c*k:=by simpa using ac
  have aw:m.toList.length=vc*k:=by simpa using Y
  have b3:xs.length*k≤c*k:=XP _ ab;have b4:d.length*k≤vc*k:=XP _ ao;have b5:q*k≤xs.length*k:=XP _ hi;have b6:(xs.length-q)*k=xs.length*k-q*k:=UZ _ _ _;have b7:(xs.length+d.length)*k=xs.length*k+d.length*k:=XY _ _ _;have bt:ZaV (Rep w lim) xs.flatten (l.toList.take (xs.length*k)):=av.cut _;have a9:ZaV (Rep w lim) d.flatten (m.toList.take (d.length*k)):=bj.cut _;have ba:∀ v∈l.toList.take (xs.length*k),v.oneCell'=Xc:=Zep au bt (by rw [Xu,ae];omega);have bb:∀ v∈m.toList.take (d.length*k),v.oneCell'=Xc:=Zep a4 a9 (by rw [Xu,a8];omega)
  have bc:∀ x∈xs.take q++d++xs.drop q,x.length=k:=by
   intro x o;rcases Xq.1 o with o | o
   ·rcases Xq.1 o with o | o
    ·exact H x (XL o)
    ·exact ap x o
   ·exact H x (XR o)
  have bd:∀ x∈xs.take q++d++xs.drop q,∀ y∈x,y.isCell=Xc:=by
   intro x o;rcases Xq.1 o with o | o
   ·rcases Xq.1 o with o | o
    ·exact au x (XL o)
    ·exact a4 x o
   ·exact au x (XR o)
  have af:(xs.take q++d++xs.drop q).length=xs.length+d.length:=by
   simp only [XD,Xu,XV];omega
  have Q:∀ ah,ZaV (Rep w lim) (xs.take q++d++xs.drop q).flatten (l.toList.take (q*k)++m.toList.take (d.length*k)++((l.toList.drop (q*k)).take ((xs.length-q)*k)++ah)):=by
   intro ah;rw [U0,U0,Ks k xs q H,KE k xs q H];refine ZaV.app ?_ (ZaV.app ?_ (av.take _) a9) (ZaV.ext ((av.drop _).cut _) ?_)
   ·simp only [XD,Xu,ae,a8,p,aw];omega
   ·simp only [Xu,ae,p];omega
   ·simp only [Xu,XV,ae,p];omega
  rw [aa,W];by_cases hr:xs.length+d.length≤c
  ·refine (ZlK L hf J aj ak b xs.length c q vb d.length vc l m w ar am hr (by unfold maxLen at a6;omega) bs hg ac a3 Y ao ba bb).mono ?_;rintro e' w' ⟨rfl,rfl⟩
   have s1:Jc w lim (w.drew.setRow b (Yi l.toList k xs.length d.length q).toArray) lim (fun x=>x=b):=by
    have:=JA (w:=w.drew) (lim:=lim) (cs:=(Yi l.toList k xs.length d.length q).toArray) hg ad;exact ⟨this.os,this.tape,this.output,this.size,this.frz,this.blk,this.ext⟩
   have s2:=JA (lim:=lim) (cs:=(Zdy l.toList (m.toList.take (d.length*k)) k xs.length d.length q).toArray) (Ym (w:=w.drew) (cur':=(Yi l.toList k xs.length d.length q).toArray) hg) ad;have s3:Jc w lim _ lim (fun x=>∃ i j,X i j=Xa x):=s1.trans s2 (fun x o=>⟨0,0,by rw [o];exact E⟩) (fun x o=>.inl ⟨0,0,by rw [o];exact E⟩);have hU:(xs.length+d.length)*k≤l.toList.length:=by rw [p];exact XP _ hr
   have C:=Znx (vs:=m.toList.take (d.length*k)) hi hU;refine ⟨_,lim,Xa b,rfl,?_,s3,fun b' ax=>?_⟩
   ·have s:=ZaZ (P:=P) (w:=(w.drew.setRow b (Yi l.toList k xs.length d.length q).toArray).setRow b (Zdy l.toList (m.toList.take (d.length*k)) k xs.length d.length q).toArray) (lim:=lim) (e:=e)
     (xs:=xs.take q++d++xs.drop q) (b:=b) (cap:=c) (Ym (Ym (w:=w.drew) hg)) ad (by rw [af];exact hr) a6 ?_ (by rw [M];exact bc) bd ?_
    ·rw [af] at s;exact s
    ·rw [M,Up,C];simp only [XD,Xu,XV,p,aw];have:(q+d.length)*k=q*k+d.length*k:=XY _ _ _;have:(xs.length+d.length)*k≤c*k:=XP _ hr;omega
    ·intro j z u hz hu;rw [To,C] at hu;exact (Q _ j z u hz hu).mono s3.ext
   ·cases ax
    exact ⟨Uj (O 0 0 b E) s3.size,.inl ⟨⟨0,0,E⟩,ad⟩⟩
  ·refine (Zoc L hf J aj ak b xs.length c q vb d.length vc l m w ar am ab (by omega) (by omega) (by omega) hg ac a3 Y ao ba bb).mono ?_;rintro e' w' ⟨G,ay,bu,rfl,rfl⟩;obtain ⟨R0,az⟩:∃ R0,R0=VM l.toList z.cells k xs.length d.length q G:=⟨_,rfl⟩;rw [← az];have be:R0.size=G*k:=by rw [az];exact Zbf L.zsz hi ay (by rw [p];omega)
   have ai:R0.toList.length=G*k:=by simpa using be
   have b8:(xs.length+d.length)*k≤G*k:=XP _ ay;have R:(m.toList.take (d.length*k)).length=d.length*k:=by rw [Xu,aw];omega
   have bv:R0.toList.take (q*k)=l.toList.take (q*k):=by
    rw [az];unfold VM;rw [Array.toList_append,Array.toList_append];rw [XB,Tp (by simp only [Xu,p];omega),Uc (by simp only [Xu,p];omega)]
   have C:=ZjJ (U:=l.toList) (n:=xs.length) (i:=q) R (by rw [ai];omega) bv;obtain ⟨W0,a0⟩:∃ W0,W0=w.drew.alloc (.cells R0 e):=⟨_,rfl⟩;obtain ⟨l0,bf⟩:∃ l0,l0=fun x=>if x=w.heap.size then 0 else lim x:=⟨_,rfl⟩
   have s0:Jc w lim W0 l0 (fun x=>∃ i j,X i j=Xa x):=by
    have:=Km w.drew lim R0 e 0 (fun x=>∃ i j,X i j=Xa x);rw [a0,bf];exact ⟨this.os,this.tape,this.output,this.size,this.frz,this.blk,this.ext⟩
   have g0:W0.heap[w.heap.size]? = Xa (.cells R0 e (0,0)):=by rw [a0];exact Y6 w.drew R0 e
   have a1:l0 w.heap.size=0:=by rw [bf];exact P4 rfl
   rw [← a0];obtain ⟨R1,bg⟩:∃ R1,R1=Vc R0.toList (m.toList.take (d.length*k)) k d.length q:=⟨_,rfl⟩;rw [← bg] at C ⊢;obtain ⟨R2,bw⟩:∃ R2,R2=ZcS R1 l.toList k xs.length d.length q:=⟨_,rfl⟩;rw [← bw] at C ⊢
   have bh:R1.length=G*k:=by
    rw [bg];simp only [Vc,XD,R,Xu,XV,ai];omega
   have s1:=JA (cs:=R1.toArray) g0 a1;have g1:((W0.setRow w.heap.size R1.toArray).drew).heap[w.heap.size]? = Xa (.cells R1.toArray e (0,0)):=Ym g0;have s2:=JA (w:=(W0.setRow w.heap.size R1.toArray).drew) (cs:=R2.toArray) g1 a1;have bx:Jc w lim (W0.setRow w.heap.size R1.toArray).drew l0 (fun x=>∃ i j,X i j=Xa x):=(s0.trans s1 (fun x o=>o) (fun x o=>.inr (by omega))).drew;have s3:=bx.trans (S:=fun x=>∃ i j,X i j=Xa x) s2 (fun x o=>o) (fun x o=>.inr (by omega));refine ⟨_,l0,Xa w.heap.size,rfl,?_,s3,fun b' ax=>?_⟩
   ·have s:=ZaZ (P:=P) (w:=((W0.setRow w.heap.size R1.toArray).drew).setRow w.heap.size R2.toArray) (lim:=l0) (e:=e)
     (xs:=xs.take q++d++xs.drop q) (b:=w.heap.size) (cap:=G) (Ym g1) a1 (by rw [af];exact ay) bu ?_ (by rw [M];exact bc) bd ?_
    ·rw [af] at s;exact s
    ·rw [M,Up,C];simp only [XD,R,Xu,XV,p,bh];omega
    ·intro j z u hz hu;rw [To,C] at hu;exact (Q _ j z u hz hu).mono s3.ext
   ·cases ax
    exact ⟨Uj (by have:=(UF.1 g1).1;exact this) s2.size,.inr (Xt _)⟩
set_option maxHeartbeats 4000000 in
set_option maxRecDepth 100000 in
def ZpK {T B I U e:TypeId} {g:TypeInfo} {z:Value} {k:Nat} (L:Zco P T B I e g z k) {f:FuncId} {d:Func} (l:P.funcs[f]? = Xa d) (m:d.body=Xa (delCode T B I U)) (h:d.ntmps=33) (b:d.results = #[.tmp 6])
  (base:Option Addr) (n c i:Nat) (w:World) (o:i≤n) (p:n≤c) :
  Calls P f #[.slice base n c,.int .i64 i,.int .i64 i] w fun e' w'=>e' = .returned (.slice base n c)∧w'=w:=by
 have j:=L.mixed;have v:=L.tT;have x:=L.tI;have y:=L.tB;have A:=run_underlying L.tT;have C:=run_underlying L.tI;have D:=run_underlying L.tB;have q:∀ w,(Go.sizeOf e).run P w = .ok k w:=fun w=>by rw [Zt L.ie];rw [ZF L.ie,L.sz]
 have r:(i:Int)≤(n:Int):=by omega
 have s:(n:Int)≤(c:Int):=by omega
 have t:(i:Int)≤(c:Int):=by omega
 refine calls_of_wp l m ?_;rw [h];simp only [Up,XO,Ui,Nat.reduceAdd,Nat.reduceSub,TJ,TK,TL,TM,X9,X8];unfold delCode
 cases base with
 | none =>
  go_wp2
  all_goals
   refine bodyPost_ret (results_tmp b _ _ _) rfl ?_;exact ⟨rfl,rfl⟩
 | some a =>
  obtain ⟨E,G,u⟩:=a
  go_wp2
  all_goals
   refine bodyPost_ret (results_tmp b _ _ _) rfl ?_;exact ⟨rfl,rfl⟩
structure ZxT (P:Program) (T B I U:TypeId) (z:Value) (f:FuncId):Prop where
 fn : ∃ fn, P.funcs[f]? = Xa fn ∧ fn.body = Xa (delCode T B I U) ∧ fn.ntmps = 33 ∧ fn.results = #[.tmp 6] ∧ (fn.name == "runtime.NumGoroutine") = Xb
 one:∀ v∈z.cells.toList,v.oneCell'=Xc
def Zvj (x:Bool) {T B I U e:TypeId} {ah:TypeInfo} {z:Value} {k:Nat} (L:Zco P T B I e ah z k) {f:FuncId} (hF:ZxT P T B I U z f) {xs:List (List AV)} {i j:Int}
  (h0:0≤i) (av:i≤j) (Y:j.toNat≤xs.length) :
  J2 P f [.own Xc e xs,.val (.int .i64 i),.val (.int .i64 j)] (.own x e (xs.take i.toNat++xs.drop j.toNat)) [.dead,.dead,.dead]:=by
 obtain ⟨fn,hf,H,Z,aa,J⟩:=hF.fn;have M:P.cellsOf e=k:=by rw [ZF L.ie,L.sz]
 refine Zdv x (args:=[.own Xc e xs,.val (.int .i64 i),.val (.int .i64 j)]) ⟨fn,hf,J,by rw [H];rfl⟩ L.nm fun w lim X n hl o ai r=>?_;have r0:Jt P w lim Xc e xs (n.getD 0 undef) (X 0 0):=o 0;have r1:=arg_int (o 1);have r2:=arg_int (o 2);rw [Zdr hl (by rw [r2];simp [undef]),r1,r2];obtain ⟨p,rfl⟩:∃ p:Nat,i=p:=⟨i.toNat,by omega⟩;obtain ⟨q,rfl⟩:∃ q:Nat,j=q:=⟨j.toNat,by omega⟩;rw [Ua] at Y ⊢;rw [Ua];have ab:p≤q:=by omega
 by_cases heq:p=q
 ·subst heq
  have A:∃ base cap,n.getD 0 undef = .slice base xs.length cap∧xs.length≤cap:=by
   rcases r0.noMap L.nm with ⟨us,hr,_⟩ | ⟨rfl,_,a,hv⟩
   ·rcases hr.2 with ⟨hv,hn⟩ | ⟨g,cap,d,hv,_,_,C,_⟩
    ·exact ⟨Xe,0,by rw [hv,hn],by omega⟩
    ·exact ⟨_,cap,hv,C⟩
   ·exact ⟨_,0,hv,Xt _⟩
  obtain ⟨base,cap,N,aj⟩:=A;rw [N] at r0 ⊢;refine (ZpK L hf H Z aa base xs.length cap p w Y aj).mono ?_;rintro e' w' ⟨rfl,rfl⟩;exact ⟨_,lim,X 0 0,rfl,by rw [List.take_append_drop];exact r0,Jc.refl _ _ _,fun b H=>⟨r 0 0 b H,.inl ⟨⟨0,0,H⟩,Zlb r0 H⟩⟩⟩
 ·have ak:p < q:=by omega
  have al:xs≠[]:=by rintro rfl;simp at Y;omega
  obtain ⟨b,d,c,s,N,hg,C,ac,O,m,Q,R,ad⟩:=Zeh r0 al L.nm;have D:lim b=0:=ad b s rfl;rw [M] at O m;have S:xs.flatten.length=xs.length*k:=Zs xs k m;have t:d.toList.length=c*k:=by simpa using O
  have am:xs.length*k≤c*k:=XP _ C;have aw:p*k≤q*k:=XP _ ab;have ax:q*k≤xs.length*k:=XP _ Y;have ay:(xs.length-q)*k=xs.length*k-q*k:=UZ _ _ _;have an:∀ v∈d.toList.take (xs.length*k),v.oneCell'=Xc:=Zep Q (R.cut _) (by rw [Xu,S];omega)
  have ao:∀ x∈xs.take p++xs.drop q,x.length=k:=by
   intro x h;rcases Xq.1 h with h | h
   ·exact m x (XL h)
   ·exact m x (XR h)
  have ap:∀ x∈xs.take p++xs.drop q,∀ y∈x,y.isCell=Xc:=by
   intro x h;rcases Xq.1 h with h | h
   ·exact Q x (XL h)
   ·exact Q x (XR h)
  have ae:(xs.take p++xs.drop q).length=p+(xs.length-q):=by
   simp only [XD,Xu,XV];omega
  have W:∀ E,ZaV (Rep w lim) (xs.take p++xs.drop q).flatten (d.toList.take (p*k)++(d.toList.drop (q*k)).take ((xs.length-q)*k)++E):=by
   intro E;rw [U0,Ks k xs p m,KE k xs q m,XB];refine ZaV.app ?_ (R.take _) (ZaV.ext ((R.drop _).cut _) ?_)
   ·simp only [Xu,S,t];omega
   ·simp only [Xu,XV,S,t];omega
  rw [N];refine (Zsj L hf H Z aa b xs.length c p q d w ak Y C (by unfold maxLen at ac;omega) hg O an hF.one).mono ?_;rintro e' w' ⟨rfl,rfl⟩;have l:=Zj3 (U:=d.toList) (zc:=z.cells.toList) ab Y (by rw [t];exact am);obtain ⟨R1,af⟩:∃ R1,R1=J9 d.toList k xs.length p q:=⟨_,rfl⟩;rw [← af] at l ⊢;obtain ⟨R2,aq⟩:∃ R2,R2=Zb9 R1 z.cells.toList k xs.length (p+(xs.length-q)):=⟨_,rfl⟩;rw [← aq] at l ⊢
  have ag:R1.length=c*k:=by
   rw [af];simp only [J9,XD,Xu,XV,t];omega
  have s1:Jc w lim (w.drew.setRow b R1.toArray) lim (fun x=>x=b):=by
   have:=JA (w:=w.drew) (lim:=lim) (cs:=R1.toArray) hg D;exact ⟨this.os,this.tape,this.output,this.size,this.frz,this.blk,this.ext⟩
  have s2:=JA (lim:=lim) (cs:=R2.toArray) (Ym (w:=w.drew) (cur':=R1.toArray) hg) D;have s3:Jc w lim _ lim (fun x=>∃ i j,X i j=Xa x):=s1.trans s2 (fun x h=>⟨0,0,by rw [h];exact s⟩) (fun x h=>.inl ⟨0,0,by rw [h];exact s⟩);refine ⟨_,lim,Xa b,rfl,?_,s3,fun b' ar=>?_⟩
  ·have G:=ZaZ (P:=P) (w:=(w.drew.setRow b R1.toArray).setRow b R2.toArray) (lim:=lim) (e:=e)
    (xs:=xs.take p++xs.drop q) (b:=b) (cap:=c) (Ym (Ym (w:=w.drew) hg)) D (by rw [ae];omega) ac ?_ (by rw [M];exact ao) ap ?_
   ·rw [ae] at G;exact G
   ·have au:((Xv (xs.length-(p+(xs.length-q))) z.cells.toList).flatten).length=(xs.length-(p+(xs.length-q)))*k:=by simp [← L.zsz]
    have e1:(p+(xs.length-q))*k=p*k+(xs.length-q)*k:=XY _ _ _;have e2:(xs.length-(p+(xs.length-q)))*k=xs.length*k-(p+(xs.length-q))*k:=UZ _ _ _;rw [M,Up,l];simp only [XD,au,Xu,XV,t,ag];omega
   ·intro j z u hz hu;rw [To,l] at hu;exact (W _ j z u hz hu).mono s3.ext
  ·cases ar
   exact ⟨Uj (r 0 0 b s) s3.size,.inl ⟨⟨0,0,s⟩,D⟩⟩
def Zzp (bytes:Nat) (xs:LL) (i:Int) (a:LL):Option LL:=
 Zl (0≤i)<|Zl (i≤(xs.length:Int))<|Zl (a≠[])<|Zl (ZB xs a bytes)<|some (xs.take i.toNat++a++xs.drop i.toNat)
def ZqB (xs:LL) (i j:Int):Option LL:=
 Zl (0≤i)<|Zl (i≤j)<|Zl (j≤(xs.length:Int))<|some (xs.take i.toNat++xs.drop j.toNat)
def ZyF (bytes:Nat):List V→Option LL
 | [.l xs, .i i, .l ys] => Zzp bytes xs i ys
 | _ => Xe
def Zzz:List V→Option LL
 | [.l xs, .i i, .i j] => ZqB xs i j
 | _ => Xe
def ZAh (x:Bool) (e:TypeId) (bytes:Nat):Fun where
 args:=[.c (.own Xc e),.c (.int .i64),.c (.own Xb e)]
 res:=[.c (.own x e)]
 g:=ZyF bytes
def ZwG (x:Bool) (e:TypeId):Fun where
 args:=[.c (.own Xc e),.c (.int .i64),.c (.int .i64)]
 res:=[.c (.own x e)]
 g:=Zzz
def insChk (P:Program) (T B I e:TypeId) (bytes:Nat):Bool:=
 (match P.underlying T with | some (.slice e')=>e' == e | _=>Xb)&&(match P.underlying I with | some (.int k)=>k == .i64 | _=>Xb)&&(match P.underlying B with | some .bool=>Xc | _=>Xb)&&
 match P.info? e with
 | some i => (i.bytes == bytes && !Zv P e) && decide (0 < i.size) && (match i.zero with | some z => z.cells.size == i.size && z.cells.toList.all (fun v => v.oneCell') | none => Xb)
 | none => Xb
def ZdM {T B I e:TypeId} {bytes:Nat} (j:P.follows .mixedOrders=Xc) (h:insChk P T B I e bytes=Xc) :
  ∃ a z k,a.bytes=bytes∧(∀ v∈z.cells.toList,v.oneCell'=Xc)∧Zco P T B I e a z k:=by
 simp only [insChk,Xk] at h;obtain ⟨⟨⟨d,f⟩,i⟩,g⟩:=h;split at d
 case h_2=>cases d
 rename_i e' l;rw [beq_iff_eq] at d;subst d;split at f
 case h_2=>cases f
 rename_i t m;rw [beq_iff_eq] at f;subst f;split at i
 case h_2=>cases i
 rename_i n;split at g
 case h_2=>cases g
 rename_i a b;simp only [Xk,beq_iff_eq,P5,Bool.not_eq_true'] at g;obtain ⟨⟨⟨o,p⟩,q⟩,c⟩:=g;split at c
 case h_2=>cases c
 rename_i z r;simp only [Xk,beq_iff_eq,List.all_eq_true] at c;exact ⟨a,z,a.size,o,fun v s=>c.2 v s,⟨j,l,m,n,b,r,c.1,rfl,q,p⟩⟩
def Func.looksIns (a:Func) (T B I:TypeId) (fO fR:FuncId):Prop:=a.body=Xa (insCode T B I fO fR)∧a.ntmps=95∧a.results = #[.tmp 6]
def insF_ok {x : Bool} {T B I e : TypeId} {bytes : Nat} {f fO fR : FuncId} {fn fo : Func} (hm : P.follows .mixedOrders = Xc) (hc : insChk P T B I e bytes = Xc) (hf : P.funcs[f]? = Xa fn) (hname : (fn.name == "runtime.NumGoroutine") = Xb)
  (hl : Func.looksIns fn T B I fO fR) (hfo : P.funcs[fO]? = Xa fo) (ho1 : (fo.name == "runtime.NumGoroutine") = Xb) (ho2 : fo.body.isNone = Xc) (ho3 : Extern.findNext fo = Xe)
  (ho4:Extern.find fo=Xa (Extern.SlicesOverlaps.overlaps #[T,T] #[B])):(ZAh x e bytes).Ok P f:=by
 obtain ⟨inf,z,k,hb,_,hL⟩:=ZdM hm hc;have L:Zcy P T B I fO e inf z k:=⟨hL,fun args w=>run_callFunc_extern hfo ho1 ho2 ho3 ho4 args w⟩;intro vs r h;have h:ZyF bytes vs=Xa r:=h;unfold ZyF at h;split at h
 case h_2=>cases h
 rename_i xs i ys _;obtain ⟨h0,h⟩:=YM h;obtain ⟨h1,h⟩:=YM h;obtain ⟨h2,h⟩:=YM h;obtain ⟨h3,h⟩:=YM h
 cases h
 rw [ZB,← hb] at h3;exact Zu1 x L ⟨fn,hf,hl.1,hl.2.1,hl.2.2,hname⟩ h0 (show i.toNat≤xs.length by omega) h2 h3
def Func.looksDel (a:Func) (T B I U:TypeId):Prop:=a.body=Xa (delCode T B I U)∧a.ntmps=33∧a.results = #[.tmp 6]
def delF_ok {x : Bool} {T B I U e : TypeId} {bytes : Nat} {f : FuncId} {fn : Func} (hm : P.follows .mixedOrders = Xc) (hc : insChk P T B I e bytes = Xc) (hf : P.funcs[f]? = Xa fn) (hname : (fn.name == "runtime.NumGoroutine") = Xb)
  (hl:Func.looksDel fn T B I U):(ZwG x e).Ok P f:=by
 obtain ⟨inf,z,k,_,hz,L⟩:=ZdM hm hc;intro vs r h;have h:Zzz vs=Xa r:=h;unfold Zzz at h;split at h
 case h_2=>cases h
 rename_i xs i j _;obtain ⟨h0,h⟩:=YM h;obtain ⟨h1,h⟩:=YM h;obtain ⟨h2,h⟩:=YM h
 cases h
 exact Zvj x L ⟨⟨fn,hf,hl.1,hl.2.1,hl.2.2,hname⟩,hz⟩ h0 h1 (show j.toNat≤xs.length by omega)
end
end Go.AM
namespace Go.Proofs.YtnkmbgbpkgmbnaaGreat
open Go Go.AM Go.RowKit Go.Maps Go.Sort Go.Shelf Go.Proofs
def ZcT:Go.Shelf.Ren:=⟨fun | 7=>178 | 10=>198 | n=>n,fun | 23=>225 | 26=>3 | 3=>46 | 28=>229 | 0=>0 | 27=>228 | 33=>112 | 4=>4 | n=>n,fun | n=>n⟩
def ZmX:Go.Proofs.SlLaysZI.n7 Tryz.prog ZcT:={
 mixed:=by kernel_rfl
 f7:=⟨Tryz.f178.name,by decide,Tryz.func178.trans (congrArg Xa (by kernel_rfl))⟩
 f10:=⟨Tryz.f198.name,by decide,Tryz.func198.trans (congrArg Xa (by kernel_rfl))⟩
 t0:=Tryz.underlying0
 a0:=Tryz.isAgg0
 z0:=Tryz.sizeOf0
 v0:=Tryz.zeroValue0
 t4:=Tryz.underlying4
 a4:=Tryz.isAgg4
 z4:=Tryz.sizeOf4
 v4:=Tryz.zeroValue4
 t23:=Tryz.underlying225
 a23:=Tryz.isAgg225
 z23:=Tryz.sizeOf225
 v23:=Tryz.zeroValue225
 t26:=Tryz.underlying3
 a26:=Tryz.isAgg3
 z26:=Tryz.sizeOf3
 v26:=Tryz.zeroValue3
 t27:=Tryz.underlying228
 a27:=Tryz.isAgg228
 z27:=Tryz.sizeOf228
 v27:=Tryz.zeroValue228
 t28:=Tryz.underlying229
 a28:=Tryz.isAgg229
 z28:=Tryz.sizeOf229
 v28:=Tryz.zeroValue229
 t33:=Tryz.underlying112
 a33:=Tryz.isAgg112
 z33:=Tryz.sizeOf112
 v33:=Tryz.zeroValue112 }
def WW:Go.Shelf.Ren:=⟨fun | 6=>177 | 8=>196 | 9=>197 | 11=>213 | 13=>215 | 12=>214 | 23=>228 | 24=>229 | 14=>220 | 15=>221 | 16=>222 | 17=>223 | 18=>224 | 19=>225 | 20=>155 | 21=>226 | 22=>227 | 25=>230 | 26=>231 | 27=>232 | 28=>233 | 29=>234 | 30=>191 | 31=>235 | n=>n,fun | 26=>3 | 28=>229 | 24=>23 | 0=>0 | 3=>3 | 37=>99 | 48=>267 | 50=>269 | 4=>4 | 40=>261 | 39=>260 | 45=>133 | 5=>5 | 9=>9 | 51=>270 | 55=>274 | 57=>276 | 58=>277 | 33=>112 | n=>n,fun | n=>n⟩
def ZkJ:Go.Proofs.SlLaysZI.n6 Tryz.prog WW:={
 mixed:=by kernel_rfl
 f6:=⟨Tryz.f177.name,by decide,Tryz.func177.trans (congrArg Xa (by kernel_rfl))⟩
 f8:=⟨Tryz.f196.name,by decide,Tryz.func196.trans (congrArg Xa (by kernel_rfl))⟩
 f11:=⟨Tryz.f213.name,by decide,Tryz.func213.trans (congrArg Xa (by kernel_rfl))⟩
 t0:=Tryz.underlying0
 a0:=Tryz.isAgg0
 z0:=Tryz.sizeOf0
 v0:=Tryz.zeroValue0
 t24:=Tryz.underlying23
 a24:=Tryz.isAgg23
 z24:=Tryz.sizeOf23
 v24:=Tryz.zeroValue23
 t26:=Tryz.underlying3
 a26:=Tryz.isAgg3
 z26:=Tryz.sizeOf3
 v26:=Tryz.zeroValue3
 t28:=Tryz.underlying229
 a28:=Tryz.isAgg229
 z28:=Tryz.sizeOf229
 v28:=Tryz.zeroValue229
 i26:=by kernel_rfl }
def Zhw:Go.Shelf.Ren:=⟨fun | 5=>197 | 8=>215 | 7=>214 | 19=>228 | 20=>229 | 10=>220 | 11=>221 | 12=>222 | 13=>223 | 14=>224 | 15=>225 | 16=>155 | 17=>226 | 18=>227 | 30=>230 | 31=>231 | 32=>232 | 33=>233 | 34=>234 | 35=>191 | 40=>235 | n=>n,fun | 23=>23 | 25=>3 | 3=>3 | 32=>99 | 22=>23 | 0=>0 | 44=>267 | 46=>269 | 4=>4 | 36=>261 | 35=>260 | 41=>133 | 5=>5 | 9=>9 | 53=>270 | 57=>274 | 63=>276 | 64=>277 | n=>n,fun | n=>n⟩
def Zmz:Go.Proofs.SlLaysM.n5 Tryz.prog Zhw:={
 mixed:=by kernel_rfl
 f5:=⟨Tryz.f197.name,by decide,Tryz.func197.trans (congrArg Xa (by kernel_rfl))⟩
 f7:=⟨Tryz.f214.name,by decide,Tryz.func214.trans (congrArg Xa (by kernel_rfl))⟩
 f8:=Tryz.func215.trans (congrArg Xa (by kernel_rfl))
 f10:=⟨Tryz.f220.name,by decide,Tryz.func220.trans (congrArg Xa (by kernel_rfl))⟩
 f11:=⟨Tryz.f221.name,by decide,Tryz.func221.trans (congrArg Xa (by kernel_rfl))⟩
 f12:=⟨Tryz.f222.name,by decide,Tryz.func222.trans (congrArg Xa (by kernel_rfl))⟩
 f13:=⟨Tryz.f223.name,by decide,Tryz.func223.trans (congrArg Xa (by kernel_rfl))⟩
 f14:=⟨Tryz.f224.name,by decide,Tryz.func224.trans (congrArg Xa (by kernel_rfl))⟩
 f15:=⟨Tryz.f225.name,by decide,Tryz.func225.trans (congrArg Xa (by kernel_rfl))⟩
 f16:=⟨Tryz.f155.name,by decide,Tryz.func155.trans (congrArg Xa (by kernel_rfl))⟩
 f17:=⟨Tryz.f226.name,by decide,Tryz.func226.trans (congrArg Xa (by kernel_rfl))⟩
 f18:=⟨Tryz.f227.name,by decide,Tryz.func227.trans (congrArg Xa (by kernel_rfl))⟩
 f19:=Tryz.func228.trans (congrArg Xa (by kernel_rfl))
 f20:=Tryz.func229.trans (congrArg Xa (by kernel_rfl))
 f30:=⟨Tryz.f230.name,by decide,Tryz.func230.trans (congrArg Xa (by kernel_rfl))⟩
 f31:=Tryz.func231.trans (congrArg Xa (by kernel_rfl))
 f32:=Tryz.func232.trans (congrArg Xa (by kernel_rfl))
 f33:=⟨Tryz.f233.name,by decide,Tryz.func233.trans (congrArg Xa (by kernel_rfl))⟩
 f34:=⟨Tryz.f234.name,by decide,Tryz.func234.trans (congrArg Xa (by kernel_rfl))⟩
 f35:=⟨Tryz.f191.name,by decide,Tryz.func191.trans (congrArg Xa (by kernel_rfl))⟩
 f40:=⟨Tryz.f235.name,by decide,Tryz.func235.trans (congrArg Xa (by kernel_rfl))⟩
 t0:=Tryz.underlying0
 a0:=Tryz.isAgg0
 z0:=Tryz.sizeOf0
 v0:=Tryz.zeroValue0
 t3:=Tryz.underlying3
 a3:=Tryz.isAgg3
 z3:=Tryz.sizeOf3
 v3:=Tryz.zeroValue3
 t4:=Tryz.underlying4
 a4:=Tryz.isAgg4
 z4:=Tryz.sizeOf4
 v4:=Tryz.zeroValue4
 t5:=Tryz.underlying5
 a5:=Tryz.isAgg5
 z5:=Tryz.sizeOf5
 v5:=Tryz.zeroValue5
 t9:=Tryz.underlying9
 a9:=Tryz.isAgg9
 z9:=Tryz.sizeOf9
 v9:=Tryz.zeroValue9
 t22:=Tryz.underlying23
 a22:=Tryz.isAgg23
 z22:=Tryz.sizeOf23
 v22:=Tryz.zeroValue23
 t23:=Tryz.underlying23
 a23:=Tryz.isAgg23
 z23:=Tryz.sizeOf23
 v23:=Tryz.zeroValue23
 t25:=Tryz.underlying3
 a25:=Tryz.isAgg3
 z25:=Tryz.sizeOf3
 v25:=Tryz.zeroValue3
 t32:=Tryz.underlying99
 a32:=Tryz.isAgg99
 z32:=Tryz.sizeOf99
 v32:=Tryz.zeroValue99
 t35:=Tryz.underlying260
 a35:=Tryz.isAgg260
 z35:=Tryz.sizeOf260
 v35:=Tryz.zeroValue260
 t36:=Tryz.underlying261
 a36:=Tryz.isAgg261
 z36:=Tryz.sizeOf261
 v36:=Tryz.zeroValue261
 t41:=Tryz.underlying133
 a41:=Tryz.isAgg133
 z41:=Tryz.sizeOf133
 v41:=Tryz.zeroValue133
 t44:=Tryz.underlying267
 a44:=Tryz.isAgg267
 z44:=Tryz.sizeOf267
 v44:=Tryz.zeroValue267
 t46:=Tryz.underlying269
 a46:=Tryz.isAgg269
 z46:=Tryz.sizeOf269
 v46:=Tryz.zeroValue269
 t53:=Tryz.underlying270
 a53:=Tryz.isAgg270
 z53:=Tryz.sizeOf270
 v53:=Tryz.zeroValue270
 t57:=Tryz.underlying274
 a57:=Tryz.isAgg274
 z57:=Tryz.sizeOf274
 v57:=Tryz.zeroValue274
 t63:=Tryz.underlying276
 a63:=Tryz.isAgg276
 z63:=Tryz.sizeOf276
 v63:=Tryz.zeroValue276
 t64:=Tryz.underlying277
 a64:=Tryz.isAgg277
 z64:=Tryz.sizeOf277
 v64:=Tryz.zeroValue277 }
def ZoJ (m:Nat):AnyZI.SortsIn Tryz.prog WW Fence.wide m:=
  ⟨fun b off cap d W e a c=>callsIn_wide.2 (AnyM.slices_Sort_int Zmz b off cap d W e a c),
   fun p cap W=>callsIn_wide.2 (AnyM.slices_Sort_int_none Zmz p cap W)⟩
def Zm7:Vz Tryz.prog [(178,177,198)]:=by
 intro p G;obtain rfl:=List.mem_singleton.1 G;refine ⟨⟨_,Tryz.func178,by kernel_rfl,by kernel_rfl⟩,⟨_,Tryz.func177,by kernel_rfl,by kernel_rfl⟩,fun b w=>?_,fun w B b a f C H J j L=>?_⟩
 ·have M:CallsIn Fence.wide 5 Tryz.prog 178 #[.map (Xa b)] w fun e w'=>e = .returned (.func (.func 198) #[] #[.pointer (Xa ⟨w.heap.size,0,Xe⟩)])∧w'=w.alloc (.cells #[.map (Xa b)] 225):=AnyZI.keys_in ZmX Fence.wide 5 trivial rfl (Xa b) w;exact (callsIn_wide.1 M).mono (by rintro e w' ⟨rfl,rfl⟩;exact ⟨rfl,225,rfl⟩)
 ·have k:(1048576:Nat)≤maxLen:=by decide
  let R:Value→Option (DataW Unit×List MemPlace):=fun _=>Xa (.nil,[])
  have l:∀ x∈a.toList,∃ z:Int,x.key = .int .i64 z∧WideElems.rd Tryz.prog 3 R x=Xa (.int .i64 z,.nil):=fun x m=>by
   obtain ⟨z,i,D,S⟩:=L x m;refine ⟨z,i,?_⟩
   have n:keyOf Tryz.prog 3 x.key=Xa (.int .i64 z):=by
    rw [i];have N:IntKind.i64.min = -9223372036854775808:=by decide
    have O:IntKind.i64.max=9223372036854775807:=by decide
    exact keyOf_int_mk Tryz.underlying3 (by simp [Lit.wf,N,O];omega)
   simp [WideElems.rd,n,R]
  obtain ⟨D0,u⟩:∃ D0:DataW Unit,D0 = .map ((a.toList.map (WideElems.rg Tryz.prog 3 R)).foldr DataW.insert []):=⟨_,rfl⟩;have o:w.ownsMap Tryz.prog 3 R b a.size D0:=⟨a,f,H,⟨XN j k,J,fun x m=>by obtain ⟨z,_,h⟩:=l x m;exact ⟨_,h⟩⟩,Xt _,u⟩
  have g:(intKeys D0).Perm (a.toList.map ZnS):=by
   have i:intKeys D0=((a.toList.map (WideElems.rg Tryz.prog 3 R)).foldr DataW.insert []).map fun p=>Go.intOf p.1:=by rw [u];rfl
   rw [i];refine ((WideShapes.sorted_perm _).map _).trans ?_;rw [List.map_map]
   have:a.toList.map ((fun p:Lit×DataW Unit=>Go.intOf p.1) ∘ WideElems.rg Tryz.prog 3 R)=a.toList.map ZnS:=List.map_congr_left fun x m=>by
    obtain ⟨z,i,D⟩:=l x m;simp only [Function.comp];rw [WideElems.rg_of D];simp [Go.intOf,ZnS,i]
   rw [this]
  have c:Maps.size D0=a.size:=by
   rw [u,Maps.size_eq,(WideShapes.sorted_perm _).length_eq];simp
  have q:SeqGives Fence.wide 2 Tryz.prog 198 #[.pointer (Xa ⟨B,0,Xe⟩)] encZ (fun y=>y.Perm (intKeys D0)) (Maps.size D0) w:=
   AnyZI.keys_gives (ρ:=ZcT) { ZmX with } Fence.wide _ trivial rfl (by omega) B b a.size D0 w (World.block_lt_of_cell? w ⟨B,0,Xe⟩ C) C o
  have E:=AnyZI.sorted_in ZkJ Fence.wide 5 trivial trivial trivial trivial rfl (by omega) (ZoJ _) (enters_of Tryz.func197 (by kernel_rfl) rfl) 198 #[.pointer (Xa ⟨B,0,Xe⟩)] trivial (enters_of Tryz.func198 (by kernel_rfl) rfl) _ _ (by rw [c];exact XN j k) (by rw [c];omega) _ q;change CallsIn _ _ Tryz.prog 177 _ _ _ at E;refine (callsIn_wide.1 E).mono ?_;rintro e w' ⟨v,y,rfl,Q,d,_,r⟩;have s:=Q.trans g;have t:y.length=a.size:=by rw [s.length_eq];simp
  rw [t,mergeSort_of_perm_i s] at d;exact ⟨v,3,rfl,d,r⟩
end Go.Proofs.YtnkmbgbpkgmbnaaGreat
