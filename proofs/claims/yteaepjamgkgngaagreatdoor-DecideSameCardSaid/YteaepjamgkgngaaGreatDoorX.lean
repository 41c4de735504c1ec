/-
  The chapter's example holds. No condition.
-/
import Derived.Test.YteaepjamgkgngaaGreatDoorL4
import Derived.Test.YteaepjamgkgngaaGreatDoorS
set_option linter.unusedSimpArgs false
set_option linter.unusedVariables false

/- The chapter's example. -/
namespace Go.Abs.S26
open Go Go.Abs Go.Proofs

def al0 : AV := .agg [.list [] false, .list [] false, .list [] false, .list [] false, .list [] false, .list [] false, .list [] false, .list [] false, .list [] false, .list [] false, .list [] false, .list [] false, I 20, I 0, I 0, I 0, I 0, I 0, I 0, I 0, I 0, I 20, I 0, I 0, I 0, I 0, I 0, I 0, I 0, I 0, I 0, I 0, I 1, I 0, I 0, I 0, I 0]

def al1 : AV := .agg [.list [] false, .list [] false, .list [] false, .list [] false, .list [] false, .list [] false, .list [] false, .list [] false, .list [] false, .list [] false, .list [] false, .list [] false, I 20, I 0, I 0, I 0, I 0, I 0, I 0, I 0, I 0, I 20, I 0, I 0, I 0, I 0, I 0, I 0, I 0, I 0, I 0, I 0, I 1, I 1, I 1, I 0, I 0]

def tabA : Tab := fun f args => match args with
  | [a] => if f == 18 then (if eqA a al0 || eqA a al1 then some .nilIface else none) else none
  | _ => none

theorem chk0 : readW (callW Tryz.prog (exec Tryz.prog cfg 1000)) 18 [al0] [] = some (.nilIface, []) := by kernel_rfl

theorem chk1 : readW (callW Tryz.prog (exec Tryz.prog cfg 1000)) 18 [al1] [] = some (.nilIface, []) := by kernel_rfl

theorem tabA_ok : TabOk Tryz.prog cfg tabA 1000 := by
  intro f args r h
  unfold tabA at h
  split at h
  · split at h
    · rename_i a hf
      obtain rfl : f = 18 := by simpa using hf
      split at h
      · rename_i hq
        cases h
        refine ⟨fun caller => rfl, ?_, [], rfl⟩
        simp only [Bool.or_eq_true] at hq
        rcases hq with hq | hq
        · rw [eqA_eq hq]; exact chk0
        · rw [eqA_eq hq]; exact chk1
      · cases h
    · cases h
  · cases h

theorem alive_t : readW (callW Tryz.prog (execT Tryz.prog tabA cfg 2000)) 4 [] [] = some (.bool true, []) := by kernel_rfl
theorem alive_w : ∀ k σ, 3000 ≤ k → readW (callW Tryz.prog (exec Tryz.prog cfg k)) 4 [] σ = some (.bool true, σ) := fun k σ hk => readT_ok tabA_ok alive_t hk

end Go.Abs.S26
