/- What a tree asks for. Generic: no program stands in it. -/
import Derived.Test.YtjfhdhplmibnfaaAmInp
namespace Go.AM

def updA (A : Nat → List V → Prop) (n : Nat) (B : List V → Prop) : Nat → List V → Prop := fun i vs => if i = n then B vs else A i vs

def STree.wp (P : Program) (R : AV → List AV → Prop) : STree → (Nat → List V → Prop) → (Nat → V) → Prop
  | .stuck _, _, _ => False
  | .branch b t e, A, ρ => (b.den ρ = true → t.wp P R A ρ) ∧ (b.den ρ = false → e.wp P R A ρ)
  | .req p t, A, ρ => p.den ρ ∧ t.wp P R A ρ
  | .elem l i sh n t, A, ρ => ∃ vs, 0 ≤ i.den ρ ∧ (l.den ρ)[(i.den ρ).toNat]? = some ((shapesAt sh n).map (SC.den (bind ρ n vs))) ∧ t.wp P R A (bind ρ n vs)
  | .nilq l n t, A, ρ => ∀ b : Bool, (b = true → l.den ρ = []) → t.wp P R A (bind ρ n [.b b])
  | .call f args res outs n _ t, A, ρ => ∃ vs, CallOk P f (args.map (SV.den ρ)) (res.den (bind ρ n vs)) (outs.map (SV.den (bind ρ n vs))) ∧ t.wp P R A (bind ρ n vs)
  | .loop lv init n t, A, ρ => ∃ (I : List V → Prop) (m : List V → Nat), I (init.map (VE.den ρ)) ∧
      ∀ vs, vs.length = init.length → I vs → t.wp P R (updA A lv fun vs' => I vs' ∧ m vs' < m vs) (bind zeroE n vs)
  | .again lv vals, A, ρ => A lv (vals.map (VE.den ρ))
  | .ret res outs, _, ρ => R (res.den ρ) (outs.map (SV.den ρ))

/-- Of two values of one of these types '==' compares the cells. -/
def kindsV : List Sh → List Value → Prop
  | [], [] => True
  | .int k :: L, .int k' _ :: us => k = k' ∧ kindsV L us
  | .bool :: L, .bool _ :: us => kindsV L us
  | _, _ => False

def eqV : List Value → List Value → Bool
  | .int _ a :: us, .int _ b :: vs => (a == b) && eqV us vs
  | .bool a :: us, .bool b :: vs => (a == b) && eqV us vs
  | _, _ => true

def PlainSound (P : Program) (plain : List TypeId) : Prop :=
  ∀ T ∈ plain, P.eqGuardType P.depth T = false ∧ ∀ L, leafs P 8 T = some L → ∀ (us vs : List Value), kindsV L us → kindsV L vs → ∀ w,
    (Op.equalIn 10000 T (.agg us.toArray) (.agg vs.toArray)).run P w = .ok (eqV us vs) w

end Go.AM
