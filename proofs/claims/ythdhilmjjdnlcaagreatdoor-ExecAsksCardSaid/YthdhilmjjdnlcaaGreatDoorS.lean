/-
  This seat for the interpreter: its modes, and states as values. No condition.
-/
import Derived.Test.YthdhilmjjdnlcaaGreatDoorL3
import Derived.KernelRfl
import Derived.Test.YthdhilmjjdnlcaaGreatDoorProg
set_option linter.unusedSimpArgs false
set_option linter.unusedVariables false

/- The seat: its modes, and states as values. -/
namespace Go.Abs.S22
open Go Go.Abs Go.Proofs

abbrev I (n : Int) : AV := .int .i64 n
abbrev B (b : Bool) : AV := .bool b
def sts : List Nat := [9, 17, 18, 19, 26, 27, 28, 29, 30, 34, 54, 56, 57, 58, 59, 60, 61, 62, 81, 83, 86, 87, 89, 91, 93, 94, 95, 96, 98, 99, 100, 101, 119, 120, 121, 122, 123, 124, 125, 126, 127, 128, 131, 133, 135, 136, 137, 139, 142, 144, 148, 150, 162, 163, 166, 169, 173, 187, 212, 213, 214, 215, 263, 280, 281, 282, 283, 284]
def inls : List Nat := [49, 50, 53, 66, 74, 88, 90, 92, 97, 109, 110, 111, 159, 183, 184, 185, 188, 208, 209, 210, 211, 231, 232, 237, 238, 246, 247, 248, 249, 250, 251, 252, 254, 255, 259, 260, 261, 262, 264, 265, 267, 268, 269, 270, 271]
def deads : List (Nat × Nat × List Nat) := [(11, 5, [9, 10, 21, 22, 23, 24, 25, 26, 27, 28, 29, 30, 31, 32, 33, 34, 35, 36, 37, 38, 39, 40, 41, 42, 43, 44, 45, 46, 47, 48, 49, 50, 51, 52, 53, 54, 55, 56, 57, 58, 59, 60, 61, 62, 63, 64, 65, 66, 67, 68, 69, 70, 71, 72]), (12, 4, [4, 5, 14, 15, 16, 17, 18, 19, 20, 21, 22, 23, 24, 25]), (13, 5, [9, 10, 11, 28, 29, 30, 31, 32, 33, 34, 35, 36, 37, 38, 39, 40, 41, 42, 43, 44, 45, 46, 47, 48, 49, 50, 51, 52, 53, 54, 55, 56, 57, 58, 59, 60, 61, 62, 63]), (20, 8, [2, 4, 19, 20, 21, 22, 23, 24, 25]), (38, 5, [7, 16, 17, 18, 19, 20, 21, 22, 23, 24, 25, 26, 27, 28, 29, 30, 31, 32, 33, 34, 35, 36]), (40, 3, [7, 14, 15, 16, 17, 18, 19, 20, 21, 22, 23, 24, 25, 26, 27, 28, 29, 30, 31, 32, 33, 34]), (46, 2, [2, 4, 13, 14, 15, 16, 17, 18, 19, 20, 21, 22]), (47, 2, [2, 5, 12, 13, 14, 15, 16, 17, 18, 19, 20, 21, 22, 23, 24, 25, 26, 27, 28, 29, 30, 31, 32, 33, 34]), (47, 5, [2, 5, 22, 23, 24, 25, 26, 27, 28, 29, 30, 31, 32, 33, 34]), (47, 11, [2, 6, 7, 8, 9, 11, 39, 40, 41, 42, 43, 44, 45, 46, 47, 48, 49, 50, 51, 52, 53, 54, 55, 56, 57, 58, 59, 60, 61, 62, 63, 64, 65, 66, 67, 68, 69, 70, 71, 72, 73, 74, 75, 76, 77, 78, 79, 80, 81, 82, 83, 84, 85, 86, 87, 88, 89, 90, 91, 92, 93, 94]), (47, 15, [2, 11, 43, 44, 45, 46, 47, 48, 49, 50, 51, 52, 53, 54, 55, 56, 57, 58, 59, 60, 61, 62, 63, 64, 65]), (47, 18, [2, 11, 53, 54, 55, 56, 57, 58, 59, 60, 61, 62, 63, 64, 65]), (64, 3, [2, 5, 6, 7, 22, 23, 24, 25, 26, 27, 28, 29, 30, 31, 32, 33, 34, 35, 36, 37]), (65, 4, [2, 5, 6, 8, 9, 17, 18, 19, 20, 21, 22, 23, 24, 25, 26, 27, 28, 29, 30, 31, 32, 33, 34, 35, 36, 37, 38, 39, 40, 41, 42, 43, 44, 45, 46, 47, 48, 49, 50, 51, 52, 53, 54, 55, 56, 57, 58, 59, 60, 61]), (65, 7, [2, 8, 9, 23, 24, 25, 26, 27, 28, 29, 30, 31, 32, 33, 34, 35, 36, 37, 38, 39, 40, 41, 42, 43, 44, 45, 46, 47, 48, 49, 50, 51, 52, 53, 54, 55, 56, 57, 58, 59, 60]), (109, 2, [4, 5, 9, 10, 11, 12, 13, 14, 15, 16, 17, 18])]
def deadF (fn i : Nat) : List (Nat × Nat × List Nat) → List Nat
  | [] => []
  | (f, j, l) :: rest => if f == fn && j == i then l else deadF fn i rest
def globF : Nat → Option (List AV)
  | 0 => some [I 4, I 5, I 6, I 7, I 8, I 9, I 10, I 11, I 12]
  | 2 => some [I 0, I 1]
  | 3 => some [I (-1073741824), I 1073741824]
  | _ => none
def modeF (_ f : Nat) : Mode := if f == 186 then .state [(0, 0, 37)] else if sts.contains f then .state [] else if inls.contains f then .inline else .reader
def cloneF : Nat → Option TypeId
  | 44 => some 3
  | 52 => some 94
  | 71 => some 57
  | 84 => some 103
  | _ => none
def cfg : Cfg where
  glob := globF
  mode := modeF
  ext _ := none
  clone := cloneF
  quiet f := f == 18 || f == 19 || f == 26
  dead f i := deadF f i deads

/-- A state, as numbers. -/
structure St where
  objs : List (Nat → Int)
  ls : Nat → List Int
  pl : Nat → Int
  gm : Nat → Int

abbrev Ob := Nat → Int
def cO (o : Ob) : List AV := [I (o 0), I (o 1), I (o 2), I (o 3), I (o 4), I (o 5), I (o 6), I (o 7), I (o 8), I (o 9), I (o 10), I (o 11), I (o 12), I (o 13), I (o 14), I (o 15), I (o 16), I (o 17)]
def E (o : Ob) : AV := .agg (cO o)
def o0 : Ob := fun _ => 0
def cL (l : Nat → List Int) : List AV := [.list ((l 0).map I) false, .list ((l 1).map I) false, .list ((l 2).map I) false, .list ((l 3).map I) false, .list ((l 4).map I) false, .list ((l 5).map I) false, .list ((l 6).map I) false, .list ((l 7).map I) false, .list ((l 8).map I) false, .list ((l 9).map I) false, .list ((l 10).map I) false]
def cS (s : St) : List AV := [.list (s.objs.map E) false, .list ((s.ls 0).map I) false, .list ((s.ls 1).map I) false, .list ((s.ls 2).map I) false, .list ((s.ls 3).map I) false, .list ((s.ls 4).map I) false, .list ((s.ls 5).map I) false, .list ((s.ls 6).map I) false, .list ((s.ls 7).map I) false, .list ((s.ls 8).map I) false, .list ((s.ls 9).map I) false, .list ((s.ls 10).map I) false,
  I (s.pl 0), I (s.pl 1), I (s.pl 2), I (s.pl 3), I (s.pl 4), I (s.pl 5), I (s.pl 6), I (s.pl 7), I (s.pl 8), I (s.pl 9), I (s.pl 10), I (s.pl 11), I (s.pl 12), I (s.pl 13), I (s.pl 14), I (s.pl 15), I (s.pl 16), I (s.pl 17),
  I (s.gm 0), I (s.gm 1), I (s.gm 2), I (s.gm 3), I (s.gm 4), I (s.gm 5), I (s.gm 6)]

theorem bl_I (xs : List Int) : AV.blockss (xs.map I) = [] := blockss_map (fun _ => rfl) xs
theorem bl_E (xs : List Ob) : AV.blockss (xs.map E) = [] := blockss_map (fun _ => rfl) xs
theorem fr_I (xs : List Int) : AV.frees (xs.map I) = true := frees_map (fun _ => rfl) xs
theorem fr_E (xs : List Ob) : AV.frees (xs.map E) = true := frees_map (fun _ => rfl) xs
theorem bl_cO (o : Ob) : AV.blockss (cO o) = [] := rfl
theorem fr_cO (o : Ob) : AV.frees (cO o) = true := rfl
theorem bl_cL (l : Nat → List Int) : AV.blockss (cL l) = [] := by simp [cL, AV.blockss, AV.blocks, bl_I]
theorem fr_cL (l : Nat → List Int) : AV.frees (cL l) = true := by simp [cL, AV.frees, AV.free, fr_I]
theorem bl_cS (s : St) : AV.blockss (cS s) = [] := by simp [cS, AV.blockss, AV.blocks, bl_I, bl_E]
theorem fr_cS (s : St) : AV.frees (cS s) = true := by simp [cS, AV.frees, AV.free, fr_I, fr_E]
def wf (s : St) : Prop := s.objs.length ≤ 100000 ∧ ∀ z, (s.ls z).length ≤ 100000
theorem cL_at (l : Nat → List Int) (z : Nat) (h : z < 11) : (cL l)[z]? = some (.list ((l z).map I) false) := by
  match z, h with
  | 0, _ | 1, _ | 2, _ | 3, _ | 4, _ | 5, _ | 6, _ | 7, _ | 8, _ | 9, _ | 10, _ => rfl
theorem cO_at (o : Ob) (z : Nat) (h : z < 18) : (cO o)[z]? = some (I (o z)) := by
  rcases z with _|_|_|_|_|_|_|_|_|_|_|_|_|_|_|_|_|_|z <;> first | rfl | omega

theorem bl_B (xs : List Bool) : AV.blockss (xs.map B) = [] := blockss_map (fun _ => rfl) xs
theorem bS : (∀ (a : AV) (l : List AV), AV.blockss (a :: l) = a.blocks ++ AV.blockss l) ∧ AV.blockss [] = [] ∧ (∀ k n, AV.blocks (.int k n) = []) ∧ (∀ b, AV.blocks (.bool b) = []) ∧ (∀ l, AV.blocks (.agg l) = AV.blockss l) ∧ (∀ l, AV.blocks (.tuple l) = AV.blockss l) ∧ (∀ l x, AV.blocks (.list l x) = AV.blockss l) ∧
    (∀ l o, AV.blocks (.ro l o) = AV.blockss l) ∧ (∀ b o, AV.blocks (.ptr b o) = [b]) ∧ (∀ b g i o, AV.blocks (.eptr b g i o) = [b]) ∧ (∀ b g o n, AV.blocks (.sl b g o n) = [b]) ∧ (∀ b o n, AV.blocks (.bsl b o n) = [b]) ∧ AV.blocks .opq = [] ∧ AV.blocks .nilIface = [] ∧ AV.blocks .nilp = [] ∧ AV.blocks .nilFunc = [] ∧ (∀ t v, AV.blocks (.iface t v) = v.blocks) ∧
    (∀ f a b, AV.blocks (.func f a b) = AV.blockss a ++ AV.blockss b) ∧ AV.blocks undefA = [] ∧ (∀ xs : List Int, AV.blockss (xs.map I) = []) ∧ (∀ xs : List Bool, AV.blockss (xs.map B) = []) ∧ (∀ xs : List Ob, AV.blockss (xs.map E) = []) ∧ (∀ o, AV.blockss (cO o) = []) ∧ (∀ l, AV.blockss (cL l) = []) ∧ (∀ s, AV.blockss (cS s) = []) ∧
    (∀ l z, blkB (.box l z) = AV.blockss l) ∧ (∀ l g n z, blkB (.rows l g n z) = AV.blockss l) ∧ (∀ l : List Nat, [] ++ l = l) ∧ (∀ l : List Nat, l ++ [] = l) ∧ (∀ (n : Nat) (l m : List Nat), (n :: l) ++ m = n :: (l ++ m)) ∧
    (∀ l : List AV, [] ++ l = l) ∧ (∀ (n : AV) (l m : List AV), (n :: l) ++ m = n :: (l ++ m)) ∧ (∀ (n : Nat) (x : AV), List.replicate (n + 1) x = x :: List.replicate n x) ∧ (∀ x : AV, List.replicate 0 x = []) ∧ (∀ (b : Blk) (l : Sto), List.map blkB (b :: l) = blkB b :: l.map blkB) ∧ List.map blkB [] = [] :=
  ⟨fun _ _ => rfl, rfl, fun _ _ => rfl, fun _ => rfl, fun _ => rfl, fun _ => rfl, fun _ _ => rfl, fun _ _ => rfl, fun _ _ => rfl, fun _ _ _ _ => rfl, fun _ _ _ _ => rfl, fun _ _ _ => rfl, rfl, rfl, rfl, rfl, fun _ _ => rfl, fun _ _ _ => rfl, rfl, bl_I, bl_B, bl_E, bl_cO, bl_cL, bl_cS,
    fun _ _ => rfl, fun _ _ _ _ => rfl, fun _ => rfl, List.append_nil, fun _ _ _ => rfl, fun _ => rfl, fun _ _ _ => rfl, fun _ _ => rfl, fun _ => rfl, fun _ _ => rfl, rfl⟩
theorem load_epB {P : Program} {cfg : Cfg} {fn : Nat} {c : Caller} {lo' : Nat} {fr : List AV} {σ : Sto} {o : Op} {t : TypeId} {x : Operand} {sz b gn i : Nat} {xs : List Bool} {fz : Bool} (ho : o = .load t x) (hx : evA cfg fr x = some (.eptr b gn i 0)) (hb : σ[b]? = some (.rows (xs.map B) gn sz fz)) (hi : i < xs.length) (ht : isAggO P t = some false) :
    opA P cfg c fn lo' fr σ o = some (.bool (decide (xs.getD i false = true)), σ) := by
  refine load_ep (g := B) (d := false) ho hx hb hi ?_
  simp only [readA, ht, AV.cells, B]
  cases xs.getD i false <;> rfl
end Go.Abs.S22
