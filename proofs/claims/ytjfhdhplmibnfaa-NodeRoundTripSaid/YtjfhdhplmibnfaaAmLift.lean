/- The first words of a program's order of initialisation, read without reading the rest. Generic: no program stands in it. -/
import GoSem.ClaimJoined
import GoSem.ClaimOpenFrom
import Derived.KernelRfl
namespace Go.AM
open Go
set_option linter.unusedSimpArgs false
set_option linter.unusedVariables false

def blank : Char := Char.ofNat 32

theorem words_blank (r : List Char) : wordsSigns (blank :: r) = [] :: wordsSigns r := by
  show wordsSigns (Char.ofNat 32 :: r) = _
  rw [wordsSigns]

theorem words_other (c : Char) (r : List Char) (h : c ≠ blank) : wordsSigns (c :: r) = match wordsSigns r with | w :: ws => (c :: w) :: ws | [] => [[c]] := by
  rw [wordsSigns]
  · rfl
  · exact h

theorem words_word (r : List Char) : ∀ (w : List Char), (w.all fun c => c != blank) = true → wordsSigns (w ++ blank :: r) = w :: wordsSigns r
  | [], _ => words_blank r
  | c :: w, h => by
    rw [List.all_cons, Bool.and_eq_true] at h
    rw [List.cons_append, words_other c _ (by simpa using h.1), words_word r w h.2]

theorem behind_words {L : List Char} (h1 : ((L.take 7).all fun c => c != blank) = true) (h2 : (((L.drop 8).take 64).all fun c => c != blank) = true) (h3 : (((L.drop 73).take 3).all fun c => c != blank) = true)
    (hL : L = L.take 7 ++ blank :: ((L.drop 8).take 64 ++ blank :: ((L.drop 73).take 3 ++ blank :: L.drop 77))) (hm : ((L.take 7 == "harness".toList || L.take 7 == "ownmain".toList) && isSumSigns ((L.drop 8).take 64)) = true)
    (hc : (L.drop 73).take 3 = "cut".toList) : ∃ ws, behindMainWord (wordsSigns L) = "cut".toList :: ws := by
  refine ⟨wordsSigns (L.drop 77), ?_⟩
  have h : wordsSigns L = L.take 7 :: (L.drop 8).take 64 :: (L.drop 73).take 3 :: wordsSigns (L.drop 77) := by
    rw [hL, words_word _ _ h1, words_word _ _ h2, words_word _ _ h3, ← hL]
  rw [h, behindMainWord, if_pos hm, hc]

theorem enters_of {P : Program} {ws : List (List Char)} (h : behindMainWord (wordsSigns P.initOrder.toList) = "cut".toList :: ws) (h1 : P.laysLater = false) (h2 : P.bearsReflect = false) (h3 : P.doorFits [] = true) : P.mayEnter = true := by
  unfold Program.mayEnter
  rw [h]
  have hs : stripLifts liftWords ("cut".toList :: ws) = ([], "cut".toList :: ws) := by kernel_rfl
  simp only [hs]
  simp [h1, h2, h3]

theorem lifts_of {P : Program} {ws : List (List Char)} (h : behindMainWord (wordsSigns P.initOrder.toList) = "cut".toList :: ws) : P.headLifts = [] := by
  unfold Program.headLifts
  rw [h]
  have hs : stripLifts liftWords ("cut".toList :: ws) = ([], "cut".toList :: ws) := by kernel_rfl
  simp only [hs]
  simp

theorem final_of {P : Program} {ws : List (List Char)} (h : behindMainWord (wordsSigns P.initOrder.toList) = "cut".toList :: ws) : P.liftsFinal = false := by
  unfold Program.liftsFinal
  rw [lifts_of h, h]
  have hs : ("cut".toList == "carried".toList) = false := by decide +kernel
  simp [hs]

theorem make_of {P : Program} {ws : List (List Char)} (h : behindMainWord (wordsSigns P.initOrder.toList) = "cut".toList :: ws) : P.make = some .cut := by
  unfold Program.make
  rw [h]
  simp

end Go.AM
