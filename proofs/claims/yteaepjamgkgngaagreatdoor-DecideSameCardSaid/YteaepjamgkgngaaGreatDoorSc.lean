/-
  The program meets what the interpreter asks. No condition.
-/
import Derived.Test.YteaepjamgkgngaaGreatDoorL3
import Derived.Test.YteaepjamgkgngaaGreatDoorS
set_option linter.unusedSimpArgs false
set_option linter.unusedVariables false

/- What the interpreter's soundness asks of the program. -/
namespace Go.Abs.S26
open Go Go.Abs Go.Proofs

def opsOf : Code → List Oper
  | .region _ ops _ => ops.toList
  | .seq a b => opsOf a ++ opsOf b
  | .cond _ a b => opsOf a ++ opsOf b
  | _ => []
def posAt (fn : Func) (i : Nat) : String := match fn.body with
  | some c => match (opsOf c)[i]? with
    | some o => o.pos
    | none => ""
  | none => ""
def aftAt (fn : Func) (i : Nat) : Array Edge := match fn.body with
  | some c => match (opsOf c)[i]? with
    | some o => o.after
    | none => #[]
  | none => #[]
theorem clone10 : IsClone Tryz.prog 10 3 := ⟨Tryz.f10, 22, 4, 1, 8, (zeroA Tryz.prog 3).getD .opq, 0, 1, 2, 3, posAt Tryz.f10, aftAt Tryz.f10, Tryz.func10, by kernel_rfl, rfl, rfl, Tryz.underlying22, by kernel_rfl, by kernel_rfl, by kernel_rfl, by kernel_rfl, by omega, by omega⟩
theorem clone31 : IsClone Tryz.prog 31 64 := ⟨Tryz.f31, 36, 4, 6, 48, (zeroA Tryz.prog 64).getD .opq, 0, 1, 2, 3, posAt Tryz.f31, aftAt Tryz.f31, Tryz.func31, by kernel_rfl, rfl, rfl, Tryz.underlying36, by kernel_rfl, by kernel_rfl, by kernel_rfl, by kernel_rfl, by omega, by omega⟩
theorem clone32 : IsClone Tryz.prog 32 67 := ⟨Tryz.f32, 29, 4, 18, 144, (zeroA Tryz.prog 67).getD .opq, 0, 1, 2, 3, posAt Tryz.f32, aftAt Tryz.f32, Tryz.func32, by kernel_rfl, rfl, rfl, Tryz.underlying29, by kernel_rfl, by kernel_rfl, by kernel_rfl, by kernel_rfl, by omega, by omega⟩
theorem clone171 : IsClone Tryz.prog 171 163 := ⟨Tryz.f171, 50, 4, 3, 24, (zeroA Tryz.prog 163).getD .opq, 0, 1, 2, 3, posAt Tryz.f171, aftAt Tryz.f171, Tryz.func171, by kernel_rfl, rfl, rfl, Tryz.underlying50, by kernel_rfl, by kernel_rfl, by kernel_rfl, by kernel_rfl, by omega, by omega⟩
theorem names : (Tryz.prog.funcs.all fun fn => fn.name != "runtime.NumGoroutine") = true := by kernel_rfl
theorem cfgOk : CfgOk Tryz.prog cfg := by
  refine cfg_ok (fun f fn hf => ?_) (fun _ => rfl) ?_
  · have := Array.all_eq_true'.1 names fn (Array.mem_of_getElem? hf)
    simpa using this
  · intro f e h
    have h' : cloneF f = some e := h
    unfold cloneF at h'
    split at h'
    · cases h'; exact clone10
    · cases h'; exact clone31
    · cases h'; exact clone32
    · cases h'; exact clone171
    · cases h'
end Go.Abs.S26
