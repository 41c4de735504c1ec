/-
  What the row of ExecAsks asks. No condition.
-/
import Derived.Test.YthdhilmjjdnlcaaGreatDoorW7
import Derived.Test.YthdhilmjjdnlcaaGreatDoorSc
import Derived.Test.YthdhilmjjdnlcaaGreatDoorCards
import Derived.Test.YthdhilmjjdnlcaaGreatDoorTie
import Derived.WalkKit
import Derived.ProofKit
import Derived.OpenShut
import Derived.Deep.DeepHandedRow
set_option linter.unusedSimpArgs false
set_option linter.unusedVariables false

/- ExecAsks, as the row and the card say it. -/
namespace Go.Proofs.YthdhilmjjdnlcaaGreatDoor.execAsks
open Go.ChangeShapes Go.WideShapes Go.ChangeAt Go.RowKit Go.Abs

theorem own : ownKnob Tryz.prog.godebug = none := by kernel_rfl

theorem flat : flatB Tryz.prog [3, 25, 143] = true := by kernel_rfl
theorem g0 : Tryz.prog.globalNamed "mulligan/state.resting" = some 0 := by kernel_rfl
theorem g2 : Tryz.prog.globalNamed "mulligan/state.flag" = some 2 := by kernel_rfl
theorem g3 : Tryz.prog.globalNamed "mulligan/state.any" = some 3 := by kernel_rfl
theorem t0 : (Tryz.prog.globals[0]?).map (·.type) = some 25 := by kernel_rfl
theorem t2 : (Tryz.prog.globals[2]?).map (·.type) = some 143 := by kernel_rfl
theorem t3 : (Tryz.prog.globals[3]?).map (·.type) = some 143 := by kernel_rfl

theorem globs {W : World} (h : laidMetH Tryz.prog Rows.execAsksRow.laid W) : GlobOk S22.cfg (Ren.still W) := by
  refine glob_ok flat (by rfl) h ?_
  intro g cs hg
  have hg' : S22.globF g = some cs := hg
  unfold S22.globF at hg'
  split at hg'
  · cases hg'; exact ⟨_, Rows.laid_mulligan_state_resting, 25, List.Mem.tail _ (List.Mem.tail _ (List.Mem.head _)), g0, t0, by decide, rfl, rfl⟩
  · cases hg'; exact ⟨_, Rows.laid_mulligan_state_flag, 143, List.Mem.tail _ (List.Mem.head _), g2, t2, by decide, rfl, rfl⟩
  · cases hg'; exact ⟨_, Rows.laid_mulligan_state_any, 143, List.Mem.head _, g3, t3, by decide, rfl, rfl⟩
  · cases hg'

theorem readable29 : Tryz.prog.readableRec 29 = true := by kernel_rfl
theorem readable34 : Tryz.prog.readableRec 34 = true := by kernel_rfl
theorem sizeT : (29 < Tryz.prog.types.size ∧ 34 < Tryz.prog.types.size) := of_decide_eq_true (by kernel_rfl)
theorem follows : Tryz.prog.follows .mixedOrders = true := by kernel_rfl
theorem laidOut : laidOutB Tryz.prog = true := by kernel_rfl

theorem res3 : Tryz.f3.resultTypes = #[4] := rfl
set_option maxRecDepth 100000 in
theorem contract (H : Type) (enc : TypeId × Value → H) (W : World) (base : Nat) (args : Array Value) (ds gs : List (DataW H)) (before : List MemPlace)
    (hval : ∀ (j : Nat) t v, Tryz.f3.params[j]? = some t → args[j]? = some v → Value.okWide Tryz.prog W .any base t v)
    (hW : DataW.Whole enc Tryz.prog Tryz.f3.params.toList Rows.execAsksSpec.vars false W args.toList ds gs before) (hL : laidMetH Tryz.prog Rows.execAsksRow.laid W) :
    Calls Tryz.prog 3 args W fun e W' => ∃ v, e = .returned v ∧ Rows.execAsksSpec.post enc Tryz.prog Tryz.f3 false true false false W args v W' := by
  refine law_contract (fn := Tryz.f3) (T := S22.tys) follows S22.cfgOk S22.tys_plain laidOut (tb := 4) res3 Tryz.underlying4 ?_ ?_ rfl ?_ hval hW (globs hL)
  · intro t ht
    have : t = 29 ∨ t = 34 := by rw [Tryz.params3] at ht; simpa using ht
    rcases this with rfl | rfl
    · exact ⟨by decide, readable29, sizeT.1⟩
    · exact ⟨by decide, readable34, sizeT.2⟩
  · rw [Tryz.params3]; exact S22.asks_law
  · intro ds hl
    rw [Tryz.params3] at hl
    match ds, hl with
    | [d1, d2], _ => exact ⟨rfl, rfl, rfl⟩

/-- A world for the witness: the variables hold what their initialisers lay. -/
def fill (cs : Array Value) : Obj → Obj
  | .cells _ t frozen => .cells cs t frozen
  | o => o
def rests : Array Value := #[.int .i64 4, .int .i64 5, .int .i64 6, .int .i64 7, .int .i64 8, .int .i64 9, .int .i64 10, .int .i64 11, .int .i64 12]
noncomputable def laidWorld (os : Os) : World :=
  { World.holding Tryz.prog os ⟨#[], #[], []⟩ with heap := ((((World.holding Tryz.prog os ⟨#[], #[], []⟩).heap.modify 0 (fill rests)).modify 1 (fill rests)).modify 2 (fill #[.int .i64 0, .int .i64 1])).modify 3 (fill #[.int .i64 (-1073741824), .int .i64 1073741824]) }
def vS : Value := .agg #[.slice none 0 0, .slice none 0 0, .slice none 0 0, .slice none 0 0, .slice none 0 0, .slice none 0 0, .slice none 0 0, .slice none 0 0, .slice none 0 0, .slice none 0 0, .slice none 0 0, .slice none 0 0,
  .int .i64 0, .int .i64 0, .int .i64 0, .int .i64 0, .int .i64 0, .int .i64 0, .int .i64 0, .int .i64 0, .int .i64 0, .int .i64 0, .int .i64 0, .int .i64 0, .int .i64 0, .int .i64 0, .int .i64 0, .int .i64 0, .int .i64 0, .int .i64 0,
  .int .i64 0, .int .i64 0, .int .i64 0, .int .i64 0, .int .i64 0, .int .i64 0, .int .i64 0]
def vJ : Value := .agg #[.int .i64 0, .int .i64 0, .int .i64 0, .int .i64 0, .slice none 0 0, .int .i64 0, .int .i64 0, .int .i64 0, .int .i64 0]
theorem laid_met (os : Os) : laidMet Tryz.prog Rows.execAsksRow.laid ((laidWorld os).forCall (fun _ _ => 0) ⟨#[], #[vS, vJ], []⟩).memory :=
  laidMet_of_run' 8 (by kernel_rfl) (by kernel_rfl)
theorem reads (os : Os) {H : Type} (enc : TypeId × Value → H) : (DataW.whole enc Tryz.prog ((laidWorld os).forCall (fun _ _ => 0) ⟨#[], #[vS, vJ], []⟩).memory Tryz.f3.params.toList Rows.execAsksSpec.vars false #[vS, vJ].toList 8).isSome = true := by kernel_rfl

end Go.Proofs.YthdhilmjjdnlcaaGreatDoor.execAsks
