/-
  Cards by their kind. No condition.
-/
import Derived.Test.YthdhilmjjdnlcaaGreatDoorL3
import Derived.Test.YthdhilmjjdnlcaaGreatDoorS
set_option linter.unusedSimpArgs false
set_option linter.unusedVariables false

/- Cards: their kind alone. -/
namespace Go.Abs.S22
open Go Go.Abs Go.Proofs

/-- A card of a kind, and what comes with it. -/
def isCard (k : Int) (l : AV → Bool) : Option (AV × Sto) → Bool
  | some (.tuple [.agg [.int .i64 a0, .int .i64 _, .bool _, .int .i64 _, .int .i64 _, .int .i64 _, .int .i64 _, .int .i64 _, .int .i64 _, .int .i64 _, .int .i64 _, .int .i64 _, .list es false], v], []) => a0 == k && AV.frees es && l v
  | _ => false
def isNil : AV → Bool
  | .nilIface => true
  | _ => false
def isTru : AV → Bool
  | .bool true => true
  | _ => false

structure Cd where
  a1 : Int
  a2 : Bool
  a3 : Int
  a4 : Int
  a5 : Int
  a6 : Int
  a7 : Int
  a8 : Int
  a9 : Int
  a10 : Int
  a11 : Int
  es : List AV
def Cd.av (c : Cd) (k : Int) : List AV := [I k, I c.a1, .bool c.a2, I c.a3, I c.a4, I c.a5, I c.a6, I c.a7, I c.a8, I c.a9, I c.a10, I c.a11, .list c.es false]

theorem isCard_of {k : Int} {l : AV → Bool} {x : Option (AV × Sto)} (h : isCard k l x = true) : ∃ (c : Cd) (v : AV), AV.frees c.es = true ∧ l v = true ∧ x = some (.tuple [.agg (c.av k), v], []) := by
  unfold isCard at h
  split at h
  · rename_i a0 a1 a2 a3 a4 a5 a6 a7 a8 a9 a10 a11 es v
    simp only [Bool.and_eq_true, beq_iff_eq] at h
    obtain ⟨⟨rfl, h2⟩, h3⟩ := h
    exact ⟨⟨a1, a2, a3, a4, a5, a6, a7, a8, a9, a10, a11, es⟩, v, h2, h3, rfl⟩
  · cases h
end Go.Abs.S22
