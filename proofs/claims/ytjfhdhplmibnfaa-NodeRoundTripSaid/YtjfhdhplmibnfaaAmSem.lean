/- A function's tree, run, tells what the function does. Generic: no program stands in it. -/
import Derived.Test.YtjfhdhplmibnfaaAmRun
namespace Go.AM

/-- Requirements, by name. -/
def bytesP (l : List (List AV)) : Prop := ∀ e ∈ l, ∃ n : Int, 0 ≤ n ∧ n ≤ 255 ∧ e = [.val (.int .u8 n)]
def roomP (a b : List (List AV)) (k : Nat) : Prop := (a.length + b.length) * (k + 1) ≤ roomMax

def makeP (a : Int) (k : Nat) : Prop := 0 ≤ a ∧ a.toNat * (k + 1) ≤ roomMax

/-- Step by step through what a function computes. -/
theorem ite_goal {α : Type} {c : Prop} [Decidable c] {a b x : α} (h1 : c → a = x) (h2 : ¬ c → b = x) : (if c then a else b) = x := by
  by_cases h : c
  · rw [if_pos h]; exact h1 h
  · rw [if_neg h]; exact h2 h

theorem req_goal {γ : Type} {p : Prop} {a x : Option γ} (h : p) (h2 : a = x) : reqK p a = x := by rw [reqK_pos h]; exact h2

theorem bind_goal {α β : Type} {a : Option α} {v : α} {f : α → Option β} {x : Option β} (h : a = some v) (h2 : f v = x) : a.bind f = x := by rw [h]; exact h2

def AP.hp : AP → HP
  | .c s => .c s
  | .agg l => .agg l
  | .box l => .box l

def argsAt : List AP → Nat → List SV
  | [], _ => []
  | a :: r, n => hpAt a.hp n :: argsAt r (n + a.n)

def apsN : List AP → Nat
  | [] => 0
  | a :: r => a.n + apsN r

def apsFine (l : List AP) : Bool := l.all fun a => a.hp.fine

theorem apDen_hp (a : AP) (us : List V) (j : Nat) : apDen a us j = hpDen a.hp us j := by cases a <;> rfl

theorem argsAt_den : ∀ (l : List AP) (n : Nat) (us : List V), apsFine l = true → (argsAt l n).map (SV.den (envL us)) = apsDen l us n
  | [], _, _, _ => rfl
  | a :: r, n, us, h => by
    simp only [apsFine, List.all_cons, Bool.and_eq_true] at h
    rw [argsAt, List.map_cons, apsDen, apDen_hp, hpAt_sh (m := n) h.1 (ρ := envL us) (us := us) (fun j _ => rfl), argsAt_den r (n + a.n) us h.2]

theorem argsAt_bd : ∀ (l : List AP) (n : Nat), ∀ x ∈ argsAt l n, x.bd (n + apsN l)
  | [], _ => by simp [argsAt]
  | a :: r, n => by
    intro x hx
    simp only [argsAt, List.mem_cons] at hx
    rcases hx with rfl | hx
    · have hb : (hpAt a.hp n).bd (n + a.n) := by
        cases a with
        | c s => cases s <;> exact Nat.lt_succ_self n
        | agg l => exact shapesAt_bd l n
        | box l => exact boxesAt_bd l n
      exact SV.bd_mono (by simp only [apsN]; omega) _ hb
    · have := argsAt_bd r (n + a.n) x hx
      rw [apsN, ← Nat.add_assoc]
      exact this

section
variable {P : Program}

theorem fun_ok {Φ : List (FuncId × Fun)} {E : Env} (hm : P.follows .mixedOrders = true) (hps : PlainSound P E.plain) {f : FuncId} {fn : Func} {S : Fun} {n : Nat} {T : STree} (hf : P.funcs[f]? = some fn) (hname : (fn.name == "runtime.NumGoroutine") = false)
    (hfine : apsFine S.args = true) (hn : apsN S.args = n) (eq : evFn P E fn (argsAt S.args 0) n = T) (hΦ : OkAll P Φ) (hg : ∀ vs, S.g vs = T.run P Φ S.args S.res (fun _ _ => none) (envL vs)) : S.Ok P f := by
  intro vs r h
  rw [hg] at h
  have := callOk_ofR (R := fun x os => SlotsW P (os ++ [x]) (outsDen S.args (toVs _ r) (resN S.res) ++ [resDen S.res (toVs _ r) 0])) hm hps hf hname (args := argsAt S.args 0) (n := n) (ρ := envL vs)
    (fun a ha => by have := argsAt_bd S.args 0 a ha; rwa [Nat.zero_add, hn] at this) (fun _ _ h => h) (by rw [eq]; exact run_wp hΦ (fun _ _ h => h) T _ _ _ (fun _ _ h => by cases h) h)
  rw [argsAt_den S.args 0 vs hfine] at this
  exact this

end

end Go.AM
