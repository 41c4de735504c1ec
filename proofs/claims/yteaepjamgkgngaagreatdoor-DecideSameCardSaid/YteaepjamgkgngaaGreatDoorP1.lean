/-
  What the row of DecideSame asks. No condition.
-/
import Derived.Test.YteaepjamgkgngaaGreatDoorW2
import Derived.Test.YteaepjamgkgngaaGreatDoorSc
import Derived.Test.YteaepjamgkgngaaGreatDoorCards
import Derived.Test.YteaepjamgkgngaaGreatDoorTie
import Derived.WalkKit
import Derived.ProofKit
import Derived.OpenShut
import Derived.Deep.DeepHandedRow
set_option linter.unusedSimpArgs false
set_option linter.unusedVariables false

/- DecideSame, as the row says it. -/
namespace Go.Proofs.YteaepjamgkgngaaGreatDoor.decideSame
open Go.ChangeShapes Go.WideShapes Go.ChangeAt Go.RowKit Go.Abs

theorem own : ownKnob Tryz.prog.godebug = none := by kernel_rfl
theorem flat : flatB Tryz.prog [3, 31, 73, 74, 97] = true := by kernel_rfl
theorem g0 : Tryz.prog.globalNamed "mulligan/decide.asks" = some 0 := by kernel_rfl
theorem t0 : (Tryz.prog.globals[0]?).map (·.type) = some 74 := by kernel_rfl
theorem g1 : Tryz.prog.globalNamed "mulligan/state.resting" = some 1 := by kernel_rfl
theorem t1 : (Tryz.prog.globals[1]?).map (·.type) = some 31 := by kernel_rfl
theorem g2 : Tryz.prog.globalNamed "mulligan/emit.resting" = some 2 := by kernel_rfl
theorem t2 : (Tryz.prog.globals[2]?).map (·.type) = some 31 := by kernel_rfl
theorem g3 : Tryz.prog.globalNamed "mulligan/state.flag" = some 3 := by kernel_rfl
theorem t3 : (Tryz.prog.globals[3]?).map (·.type) = some 97 := by kernel_rfl
theorem g4 : Tryz.prog.globalNamed "mulligan/state.any" = some 4 := by kernel_rfl
theorem t4 : (Tryz.prog.globals[4]?).map (·.type) = some 97 := by kernel_rfl
theorem globs {W : World} (h : laidMetH Tryz.prog Rows.decideSameRow.laid W) : GlobOk S26.cfg (Ren.still W) := by
  refine glob_ok flat (by rfl) h ?_
  intro g cs hg
  have hg' : S26.globF g = some cs := hg
  unfold S26.globF at hg'
  split at hg'
  · cases hg'; exact ⟨_, Rows.laid_mulligan_decide_asks, 74, List.Mem.tail _ (List.Mem.tail _ (List.Mem.tail _ (List.Mem.tail _ (List.Mem.head _)))), g0, t0, by decide, rfl, rfl⟩
  · cases hg'; exact ⟨_, Rows.laid_mulligan_state_resting, 31, List.Mem.tail _ (List.Mem.tail _ (List.Mem.head _)), g1, t1, by decide, rfl, rfl⟩
  · cases hg'; exact ⟨_, Rows.laid_mulligan_emit_resting, 31, List.Mem.tail _ (List.Mem.tail _ (List.Mem.tail _ (List.Mem.head _))), g2, t2, by decide, rfl, rfl⟩
  · cases hg'; exact ⟨_, Rows.laid_mulligan_state_flag, 97, List.Mem.tail _ (List.Mem.head _), g3, t3, by decide, rfl, rfl⟩
  · cases hg'; exact ⟨_, Rows.laid_mulligan_state_any, 97, List.Mem.head _, g4, t4, by decide, rfl, rfl⟩
  · cases hg'

theorem readable24 : Tryz.prog.readableRec 24 = true := by kernel_rfl
theorem sizeT : 24 < Tryz.prog.types.size := of_decide_eq_true (by kernel_rfl)
theorem follows : Tryz.prog.follows .mixedOrders = true := by kernel_rfl
theorem laidOut : laidOutB Tryz.prog = true := by kernel_rfl
theorem res3 : Tryz.f3.resultTypes = #[4] := rfl
set_option maxRecDepth 100000 in
theorem contract (H : Type) (enc : TypeId × Value → H) (W : World) (base : Nat) (args : Array Value) (ds gs : List (DataW H)) (before : List MemPlace)
    (hval : ∀ (j : Nat) t v, Tryz.f3.params[j]? = some t → args[j]? = some v → Value.okWide Tryz.prog W .any base t v)
    (hW : DataW.Whole enc Tryz.prog Tryz.f3.params.toList Rows.decideSameSpec.vars false W args.toList ds gs before) (hL : laidMetH Tryz.prog Rows.decideSameRow.laid W) :
    Calls Tryz.prog 3 args W fun e W' => ∃ v, e = .returned v ∧ Rows.decideSameSpec.post enc Tryz.prog Tryz.f3 false true false false W args v W' := by
  refine law_contract (fn := Tryz.f3) (T := S26.tys) follows S26.cfgOk S26.tys_plain laidOut (tb := 4) res3 Tryz.underlying4 ?_ ?_ rfl ?_ hval hW (globs hL)
  · intro t ht
    obtain rfl : t = 24 := by rw [Tryz.params3] at ht; simpa using ht
    exact ⟨by decide, readable24, sizeT⟩
  · rw [Tryz.params3]; exact S26.same_law
  · intro ds hl
    rw [Tryz.params3] at hl
    match ds, hl with
    | [d1, d2], _ => exact ⟨rfl, rfl, rfl⟩

/-- A world for the witness: the variables hold what their initialisers lay. -/
def fill (cs : Array Value) : Obj → Obj
  | .cells _ t frozen => .cells cs t frozen
  | o => o
noncomputable def laidWorld (os : Os) : World :=
  { World.holding Tryz.prog os ⟨#[], #[], []⟩ with heap := ((((((World.holding Tryz.prog os ⟨#[], #[], []⟩).heap.modify 0 (fill #[.int .u64 0, .int .u64 5, .int .u64 7, .int .u64 8, .int .u64 8, .int .u64 1, .int .u64 2])).modify 1 (fill #[.int .i64 4, .int .i64 5, .int .i64 6, .int .i64 7, .int .i64 8, .int .i64 9, .int .i64 10, .int .i64 11, .int .i64 12])).modify 2 (fill #[.int .i64 4, .int .i64 5, .int .i64 6, .int .i64 7, .int .i64 8, .int .i64 9, .int .i64 10, .int .i64 11, .int .i64 12])).modify 3 (fill #[.int .i64 0, .int .i64 1])).modify 4 (fill #[.int .i64 (-1073741824), .int .i64 1073741824])) }
def vD : Value := .agg #[.int .i64 0, .int .i64 0, .int .i64 0, .int .i64 0, .slice none 0 0]
theorem laid_met (os : Os) : laidMet Tryz.prog Rows.decideSameRow.laid ((laidWorld os).forCall (fun _ _ => 0) ⟨#[], #[vD, vD], []⟩).memory :=
  laidMet_of_run' 8 (by kernel_rfl) (by kernel_rfl)
theorem reads (os : Os) {H : Type} (enc : TypeId × Value → H) : (DataW.whole enc Tryz.prog ((laidWorld os).forCall (fun _ _ => 0) ⟨#[], #[vD, vD], []⟩).memory Tryz.f3.params.toList Rows.decideSameSpec.vars false #[vD, vD].toList 8).isSome = true := by kernel_rfl
end Go.Proofs.YteaepjamgkgngaaGreatDoor.decideSame
