/-
  The program meets what the interpreter asks. No condition.
-/
import Derived.Test.YthdhilmjjdnlcaaGreatDoorS
set_option linter.unusedSimpArgs false
set_option linter.unusedVariables false

/- What the interpreter's soundness asks of the program. -/
namespace Go.Abs.S22
open Go Go.Abs Go.Proofs

def opsOf : Code → List Oper
  | .region _ ops _ => ops.toList
  | .seq a b => opsOf a ++ opsOf b
  | .cond _ a b => opsOf a ++ opsOf b
  | _ => []
def posAt (fn : Func) (i : Nat) : String := match fn.body with
  | some c => match (opsOf c)[i]? with
    | some o => o.pos
    | none => ""
  | none => ""
def aftAt (fn : Func) (i : Nat) : Array Edge := match fn.body with
  | some c => match (opsOf c)[i]? with
    | some o => o.after
    | none => #[]
  | none => #[]
theorem clone44 : IsClone Tryz.prog 44 3 := ⟨Tryz.f44, 23, 4, 1, 8, I 0, 0, 1, 2, 3, posAt Tryz.f44, aftAt Tryz.f44, Tryz.func44, by kernel_rfl, rfl, rfl, Tryz.underlying23, by kernel_rfl, by kernel_rfl, by kernel_rfl, rfl, by omega, by omega⟩
theorem clone71 : IsClone Tryz.prog 71 57 := ⟨Tryz.f71, 22, 4, 18, 144, E o0, 0, 1, 2, 3, posAt Tryz.f71, aftAt Tryz.f71, Tryz.func71, by kernel_rfl, rfl, rfl, Tryz.underlying22, by kernel_rfl, by kernel_rfl, by kernel_rfl, rfl, by omega, by omega⟩
theorem clone52 : IsClone Tryz.prog 52 94 := ⟨Tryz.f52, 62, 4, 6, 48, (zeroA Tryz.prog 94).getD .opq, 0, 1, 2, 3, posAt Tryz.f52, aftAt Tryz.f52, Tryz.func52, by kernel_rfl, rfl, rfl, Tryz.underlying62, by kernel_rfl, by kernel_rfl, by kernel_rfl, by kernel_rfl, by omega, by omega⟩
theorem clone84 : IsClone Tryz.prog 84 103 := ⟨Tryz.f84, 84, 4, 3, 24, (zeroA Tryz.prog 103).getD .opq, 0, 1, 2, 3, posAt Tryz.f84, aftAt Tryz.f84, Tryz.func84, by kernel_rfl, rfl, rfl, Tryz.underlying84, by kernel_rfl, by kernel_rfl, by kernel_rfl, by kernel_rfl, by omega, by omega⟩

theorem names : (Tryz.prog.funcs.all fun fn => fn.name != "runtime.NumGoroutine") = true := by kernel_rfl

theorem cfgOk : CfgOk Tryz.prog cfg := by
  refine cfg_ok (fun f fn hf => ?_) (fun _ => rfl) ?_
  · have := Array.all_eq_true'.1 names fn (Array.mem_of_getElem? hf)
    simpa using this
  · intro f e h
    have h' : cloneF f = some e := h
    unfold cloneF at h'
    split at h'
    · cases h'; exact clone44
    · cases h'; exact clone52
    · cases h'; exact clone71
    · cases h'; exact clone84
    · cases h'
end Go.Abs.S22
