/-
  The program meets what the interpreter asks. No condition.
-/
import Derived.Test.YtnpheencpcfbbaaGreatDoorS
import Derived.Test.YtnpheencpcfbbaaGreatDoorL3
set_option linter.unusedSimpArgs false
set_option linter.unusedVariables false
namespace Go.Abs.Z
open Go Go.Abs Go.Proofs
def opsOf : Code → List Oper
  | .region _ ops _ => ops.toList
  | .seq a b => opsOf a ++ opsOf b
  | .cond _ a b => opsOf a ++ opsOf b
  | _ => []
def posAt (fn : Func) (i : Nat) : String := match fn.body with
  | some c => match (opsOf c)[i]? with
    | some o => o.pos
    | none => ""
  | none => ""
def aftAt (fn : Func) (i : Nat) : Array Edge := match fn.body with
  | some c => match (opsOf c)[i]? with
    | some o => o.after
    | none => #[]
  | none => #[]
theorem clone40 : IsClone Tryz.prog 40 3 := ⟨Tryz.f40, 23, 4, 1, 8, (zeroA Tryz.prog 3).getD .opq, 0, 1, 2, 3, posAt Tryz.f40, aftAt Tryz.f40, Tryz.func40, by kernel_rfl, rfl, rfl, Tryz.underlying23, by kernel_rfl, by kernel_rfl, by kernel_rfl, by kernel_rfl, by omega, by omega⟩
theorem clone55 : IsClone Tryz.prog 55 99 := ⟨Tryz.f55, 55, 4, 6, 48, (zeroA Tryz.prog 99).getD .opq, 0, 1, 2, 3, posAt Tryz.f55, aftAt Tryz.f55, Tryz.func55, by kernel_rfl, rfl, rfl, Tryz.underlying55, by kernel_rfl, by kernel_rfl, by kernel_rfl, by kernel_rfl, by omega, by omega⟩
theorem clone77 : IsClone Tryz.prog 77 50 := ⟨Tryz.f77, 22, 4, 18, 144, (zeroA Tryz.prog 50).getD .opq, 0, 1, 2, 3, posAt Tryz.f77, aftAt Tryz.f77, Tryz.func77, by kernel_rfl, rfl, rfl, Tryz.underlying22, by kernel_rfl, by kernel_rfl, by kernel_rfl, by kernel_rfl, by omega, by omega⟩
theorem clone103 : IsClone Tryz.prog 103 108 := ⟨Tryz.f103, 80, 4, 3, 24, (zeroA Tryz.prog 108).getD .opq, 0, 1, 2, 3, posAt Tryz.f103, aftAt Tryz.f103, Tryz.func103, by kernel_rfl, rfl, rfl, Tryz.underlying80, by kernel_rfl, by kernel_rfl, by kernel_rfl, by kernel_rfl, by omega, by omega⟩
theorem names : (Tryz.prog.funcs.all fun fn => fn.name != "runtime.NumGoroutine") = true := by kernel_rfl
theorem cfgOk : CfgOk Tryz.prog cfg := by
  refine cfg_ok (fun f fn hf => ?_) (fun _ => rfl) ?_
  · have := Array.all_eq_true'.1 names fn (Array.mem_of_getElem? hf)
    simpa using this
  · intro f e h
    have h' : cloneF f = some e := h
    unfold cloneF at h'
    split at h'
    · cases h'; exact clone40
    · cases h'; exact clone55
    · cases h'; exact clone77
    · cases h'; exact clone103
    · cases h'
end Go.Abs.Z
