/-
  This seat for the interpreter: its modes. No condition.
-/
import Derived.Test.YteaepjamgkgngaaGreatDoorL4
import Derived.Test.YteaepjamgkgngaaGreatDoorL3
import Derived.KernelRfl
import Derived.Test.YteaepjamgkgngaaGreatDoorProg
set_option linter.unusedSimpArgs false
set_option linter.unusedVariables false

/- The seat: its modes. -/
namespace Go.Abs.S26
open Go Go.Abs Go.Proofs

abbrev I (n : Int) : AV := .int .i64 n
abbrev B (b : Bool) : AV := .bool b
def sts : List Nat := [12, 13, 14, 15, 16, 19, 22, 23, 24, 25, 26, 27, 28, 29, 30, 39, 40, 42, 43, 44, 48, 49, 50, 51, 54, 59, 71, 72, 74, 75, 77, 78, 80, 81, 82, 90, 92, 95, 96, 97, 98, 105, 109, 111, 122, 123, 126, 127, 128, 129, 146, 156, 158, 164, 165, 166, 167, 173, 175, 176, 177, 178, 188, 190, 191, 192, 193, 197, 206, 208, 217, 218, 221, 223, 224, 225, 226, 228, 229, 244, 281, 294, 295, 296, 297, 298]
def inls : List Nat := [5, 6, 11, 35, 52, 56, 65, 66, 67, 101, 104, 113, 124, 125, 144, 145, 172, 182, 198, 204, 205, 219, 220, 222, 227, 231, 232, 233, 235, 245, 246, 247, 251, 256, 257, 258, 260, 261, 262, 263, 264, 265, 266, 268, 269, 270, 271, 272, 273, 275, 276, 279, 280, 282, 283, 285]
def deads : List (Nat × Nat × List Nat) := [(3, 10, [7, 43, 44, 45, 46, 47, 48, 49, 50, 51, 52]), (7, 4, [4, 5, 45, 46, 47, 48, 49, 50, 51, 52, 53, 54, 55, 56, 57, 58]), (8, 4, [4, 5, 14, 15, 16, 17, 18, 19, 20, 21, 22, 23, 24, 25]), (11, 4, [4, 5, 14, 15, 16, 17, 18, 19, 20, 21, 22, 23, 24, 25])]
def deadF (fn i : Nat) : List (Nat × Nat × List Nat) → List Nat
  | [] => []
  | (f, j, l) :: rest => if f == fn && j == i then l else deadF fn i rest
def globF : Nat → Option (List AV)
  | 0 => some [.int .u64 0, .int .u64 5, .int .u64 7, .int .u64 8, .int .u64 8, .int .u64 1, .int .u64 2]
  | 1 => some [I 4, I 5, I 6, I 7, I 8, I 9, I 10, I 11, I 12]
  | 2 => some [I 4, I 5, I 6, I 7, I 8, I 9, I 10, I 11, I 12]
  | 3 => some [I 0, I 1]
  | 4 => some [I (-1073741824), I 1073741824]
  | _ => none
def modeF (_ f : Nat) : Mode := if f == 117 then .state [(0, 0, 37)] else if sts.contains f then .state [] else if inls.contains f then .inline else .reader
def cloneF : Nat → Option TypeId
  | 10 => some 3
  | 31 => some 64
  | 32 => some 67
  | 171 => some 163
  | _ => none
def cfg : Cfg where
  glob := globF
  mode := modeF
  ext _ := none
  clone := cloneF
  quiet f := f == 6 || f == 14 || f == 15 || f == 16
  dead f i := deadF f i deads
theorem bl_I (xs : List Int) : AV.blockss (xs.map I) = [] := blockss_map (fun _ => rfl) xs
theorem bl_B (xs : List Bool) : AV.blockss (xs.map B) = [] := blockss_map (fun _ => rfl) xs
theorem fr_I (xs : List Int) : AV.frees (xs.map I) = true := frees_map (fun _ => rfl) xs
theorem bS : (∀ (a : AV) (l : List AV), AV.blockss (a :: l) = a.blocks ++ AV.blockss l) ∧ AV.blockss [] = [] ∧ (∀ k n, AV.blocks (.int k n) = []) ∧ (∀ b, AV.blocks (.bool b) = []) ∧ (∀ l, AV.blocks (.agg l) = AV.blockss l) ∧ (∀ l, AV.blocks (.tuple l) = AV.blockss l) ∧ (∀ l x, AV.blocks (.list l x) = AV.blockss l) ∧
    (∀ l o, AV.blocks (.ro l o) = AV.blockss l) ∧ (∀ b o, AV.blocks (.ptr b o) = [b]) ∧ (∀ b g i o, AV.blocks (.eptr b g i o) = [b]) ∧ (∀ b g o n, AV.blocks (.sl b g o n) = [b]) ∧ (∀ b o n, AV.blocks (.bsl b o n) = [b]) ∧ AV.blocks .opq = [] ∧ AV.blocks .nilIface = [] ∧ AV.blocks .nilp = [] ∧ AV.blocks .nilFunc = [] ∧ (∀ t v, AV.blocks (.iface t v) = v.blocks) ∧
    (∀ f a b, AV.blocks (.func f a b) = AV.blockss a ++ AV.blockss b) ∧ AV.blocks undefA = [] ∧ (∀ xs : List Int, AV.blockss (xs.map I) = []) ∧ (∀ xs : List Bool, AV.blockss (xs.map B) = []) ∧
    (∀ l z, blkB (.box l z) = AV.blockss l) ∧ (∀ l g n z, blkB (.rows l g n z) = AV.blockss l) ∧ (∀ l : List Nat, [] ++ l = l) ∧ (∀ l : List Nat, l ++ [] = l) ∧ (∀ (n : Nat) (l m : List Nat), (n :: l) ++ m = n :: (l ++ m)) ∧
    (∀ l : List AV, [] ++ l = l) ∧ (∀ (n : AV) (l m : List AV), (n :: l) ++ m = n :: (l ++ m)) ∧ (∀ (n : Nat) (x : AV), List.replicate (n + 1) x = x :: List.replicate n x) ∧ (∀ x : AV, List.replicate 0 x = []) ∧ (∀ (b : Blk) (l : Sto), List.map blkB (b :: l) = blkB b :: l.map blkB) ∧ List.map blkB [] = [] :=
  ⟨fun _ _ => rfl, rfl, fun _ _ => rfl, fun _ => rfl, fun _ => rfl, fun _ => rfl, fun _ _ => rfl, fun _ _ => rfl, fun _ _ => rfl, fun _ _ _ _ => rfl, fun _ _ _ _ => rfl, fun _ _ _ => rfl, rfl, rfl, rfl, rfl, fun _ _ => rfl, fun _ _ _ => rfl, rfl, bl_I, bl_B,
    fun _ _ => rfl, fun _ _ _ _ => rfl, fun _ => rfl, List.append_nil, fun _ _ _ => rfl, fun _ => rfl, fun _ _ _ => rfl, fun _ _ => rfl, fun _ => rfl, fun _ _ => rfl, rfl⟩
theorem load_epI {P : Program} {cfg : Cfg} {fn : Nat} {c : Caller} {lo' : Nat} {fr : List AV} {σ : Sto} {o : Op} {t : TypeId} {x : Operand} {sz b gn i : Nat} {xs : List Int} {fz : Bool} (ho : o = .load t x) (hx : evA cfg fr x = some (.eptr b gn i 0)) (hb : σ[b]? = some (.rows (xs.map I) gn sz fz)) (hi : i < xs.length) (ht : isAggO P t = some false) :
    opA P cfg c fn lo' fr σ o = some (I (xs.getD i 0), σ) := by
  refine load_ep (g := I) (d := 0) ho hx hb hi ?_
  simp only [readA, ht, AV.cells]; rfl
end Go.Abs.S26
