/-
  What the row of StackTells asks. No condition.
-/
import Derived.Test.YtnpheencpcfbbaaGreatDoorW6
import Derived.Test.YtnpheencpcfbbaaGreatDoorSc
import Derived.Test.YtnpheencpcfbbaaGreatDoorCards
import Derived.Test.YtnpheencpcfbbaaGreatDoorTie
import Derived.WalkKit
import Derived.ProofKit
import Derived.OpenShut
import Derived.Deep.DeepHandedRow
set_option linter.unusedSimpArgs false
set_option linter.unusedVariables false
namespace Go.Proofs.YtnpheencpcfbbaaGreatDoor.stackTells
open Go.ChangeShapes Go.WideShapes Go.ChangeAt Go.RowKit Go.Abs
theorem own : ownKnob Tryz.prog.godebug = none := by kernel_rfl
theorem flat : flatB Tryz.prog [3, 25, 176] = true := by kernel_rfl
theorem g0 : Tryz.prog.globalNamed "mulligan/state.resting" = some 0 := by kernel_rfl
theorem g1 : Tryz.prog.globalNamed "mulligan/emit.resting" = some 1 := by kernel_rfl
theorem g2 : Tryz.prog.globalNamed "mulligan/state.flag" = some 2 := by kernel_rfl
theorem g3 : Tryz.prog.globalNamed "mulligan/state.any" = some 3 := by kernel_rfl
theorem t0 : (Tryz.prog.globals[0]?).map (·.type) = some 25 := by kernel_rfl
theorem t1 : (Tryz.prog.globals[1]?).map (·.type) = some 25 := by kernel_rfl
theorem t2 : (Tryz.prog.globals[2]?).map (·.type) = some 176 := by kernel_rfl
theorem t3 : (Tryz.prog.globals[3]?).map (·.type) = some 176 := by kernel_rfl
theorem globs {W : World} (h : laidMetH Tryz.prog Rows.stackTellsRow.laid W) : GlobOk Z.cfg (Ren.still W) := by
  refine glob_ok flat (by rfl) h ?_
  intro g cs hg
  have hg' : Z.globF g = some cs := hg
  unfold Z.globF at hg'
  split at hg'
  · cases hg'; exact ⟨_, Rows.laid_mulligan_state_resting, 25, List.Mem.tail _ (List.Mem.tail _ (List.Mem.head _)), g0, t0, by decide, rfl, rfl⟩
  · cases hg'; exact ⟨_, Rows.laid_mulligan_emit_resting, 25, List.Mem.tail _ (List.Mem.tail _ (List.Mem.tail _ (List.Mem.head _))), g1, t1, by decide, rfl, rfl⟩
  · cases hg'; exact ⟨_, Rows.laid_mulligan_state_flag, 176, List.Mem.tail _ (List.Mem.head _), g2, t2, by decide, rfl, rfl⟩
  · cases hg'; exact ⟨_, Rows.laid_mulligan_state_any, 176, List.Mem.head _, g3, t3, by decide, rfl, rfl⟩
  · cases hg'
theorem readable29 : Tryz.prog.readableRec 29 = true := by kernel_rfl
theorem readable3 : Tryz.prog.readableRec 3 = true := by kernel_rfl
theorem sizeT : (29 < Tryz.prog.types.size ∧ 3 < Tryz.prog.types.size) := of_decide_eq_true (by kernel_rfl)
theorem follows : Tryz.prog.follows .mixedOrders = true := by kernel_rfl
theorem laidOut : laidOutB Tryz.prog = true := by kernel_rfl
theorem res6 : Tryz.f6.resultTypes = #[4] := rfl
set_option maxRecDepth 100000 in
theorem contract (H : Type) (enc : TypeId × Value → H) (W : World) (base : Nat) (args : Array Value) (ds gs : List (DataW H)) (before : List MemPlace)
    (hval : ∀ (j : Nat) t v, Tryz.f6.params[j]? = some t → args[j]? = some v → Value.okWide Tryz.prog W .any base t v)
    (hW : DataW.Whole enc Tryz.prog Tryz.f6.params.toList Rows.stackTellsSpec.vars false W args.toList ds gs before) (hL : laidMetH Tryz.prog Rows.stackTellsRow.laid W) :
    Calls Tryz.prog 6 args W fun e W' => ∃ v, e = .returned v ∧ Rows.stackTellsSpec.post enc Tryz.prog Tryz.f6 false true false false W args v W' := by
  refine law_contract (fn := Tryz.f6) (T := Z.tys) follows Z.cfgOk Z.tys_plain laidOut (tb := 4) res6 Tryz.underlying4 ?_ ?_ rfl ?_ hval hW (globs hL)
  · intro t ht
    have : t = 29 ∨ t = 3 ∨ t = 3 := by rw [Tryz.params6] at ht; simpa using ht
    rcases this with rfl | rfl | rfl
    · exact ⟨by decide, readable29, sizeT.1⟩
    · exact ⟨by decide, readable3, sizeT.2⟩
    · exact ⟨by decide, readable3, sizeT.2⟩
  · rw [Tryz.params6]; exact Z.tells_law
  · intro ds hl
    rw [Tryz.params6] at hl
    match ds, hl with
    | [d1, d2, d3], _ => exact ⟨rfl, rfl, rfl⟩
def fill (cs : Array Value) : Obj → Obj
  | .cells _ t frozen => .cells cs t frozen
  | o => o
def rests : Array Value := #[.int .i64 4, .int .i64 5, .int .i64 6, .int .i64 7, .int .i64 8, .int .i64 9, .int .i64 10, .int .i64 11, .int .i64 12]
noncomputable def laidWorld (os : Os) : World :=
  { World.holding Tryz.prog os ⟨#[], #[], []⟩ with heap := ((((World.holding Tryz.prog os ⟨#[], #[], []⟩).heap.modify 0 (fill rests)).modify 1 (fill rests)).modify 2 (fill #[.int .i64 0, .int .i64 1])).modify 3 (fill #[.int .i64 (-1073741824), .int .i64 1073741824]) }
def vS : Value := .agg #[.slice none 0 0, .slice none 0 0, .slice none 0 0, .slice none 0 0, .slice none 0 0, .slice none 0 0, .slice none 0 0, .slice none 0 0, .slice none 0 0, .slice none 0 0, .slice none 0 0, .slice none 0 0,
  .int .i64 0, .int .i64 0, .int .i64 0, .int .i64 0, .int .i64 0, .int .i64 0, .int .i64 0, .int .i64 0, .int .i64 0, .int .i64 0, .int .i64 0, .int .i64 0, .int .i64 0, .int .i64 0, .int .i64 0, .int .i64 0, .int .i64 0, .int .i64 0,
  .int .i64 0, .int .i64 0, .int .i64 0, .int .i64 0, .int .i64 0, .int .i64 0, .int .i64 0]
def vJ : Value := .int .i64 0
theorem laid_met (os : Os) : laidMet Tryz.prog Rows.stackTellsRow.laid ((laidWorld os).forCall (fun _ _ => 0) ⟨#[], #[vS, vJ, vJ], []⟩).memory :=
  laidMet_of_run' 8 (by kernel_rfl) (by kernel_rfl)
theorem reads (os : Os) {H : Type} (enc : TypeId × Value → H) : (DataW.whole enc Tryz.prog ((laidWorld os).forCall (fun _ _ => 0) ⟨#[], #[vS, vJ, vJ], []⟩).memory Tryz.f6.params.toList Rows.stackTellsSpec.vars false #[vS, vJ, vJ].toList 8).isSome = true := by kernel_rfl
end Go.Proofs.YtnpheencpcfbbaaGreatDoor.stackTells
