/-
  Cards as values. No condition.
-/
import Derived.Test.YtnpheencpcfbbaaGreatDoorL3
import Derived.Test.YtnpheencpcfbbaaGreatDoorS
set_option linter.unusedSimpArgs false
set_option linter.unusedVariables false
namespace Go.Abs.Z
open Go Go.Abs Go.Proofs
inductive Ef where
  | mk (op n m who : Int) (subs : List Ef)
  deriving Inhabited
namespace Ef
def op : Ef → Int | mk a _ _ _ _ => a
def n : Ef → Int | mk _ a _ _ _ => a
def m : Ef → Int | mk _ _ a _ _ => a
def who : Ef → Int | mk _ _ _ a _ => a
def subs : Ef → List Ef | mk _ _ _ _ a => a
end Ef
mutual
def EF : Ef → AV
  | .mk a b c d es => .agg [I a, I b, I c, I d, .list (EFs es) false]
def EFs : List Ef → List AV
  | [] => []
  | e :: es => EF e :: EFs es
end
def e0 : Ef := .mk 0 0 0 0 []
theorem EFs_map : ∀ es : List Ef, EFs es = es.map EF
  | [] => rfl
  | e :: es => by simp only [EFs, EFs_map es, List.map_cons]
def eC (e : Ef) : List AV := [I e.op, I e.n, I e.m, I e.who, .list (e.subs.map EF) false]
theorem EF_eq (e : Ef) : EF e = .agg (eC e) := by
  cases e; simp only [EF, eC, EFs_map, Ef.op, Ef.n, Ef.m, Ef.who, Ef.subs]
theorem EF_cells (e : Ef) : (EF e).cells = eC e := by rw [EF_eq]; rfl
mutual
theorem fr_EF : ∀ e : Ef, (EF e).free = true
  | .mk a b c d es => by simp only [EF, AV.free, AV.frees, fr_EFs es, Bool.and_self]
theorem fr_EFs : ∀ es : List Ef, AV.frees (EFs es) = true
  | [] => rfl
  | e :: es => by simp only [EFs, AV.frees, fr_EF e, fr_EFs es, Bool.and_self]
end
mutual
theorem bl_EF1 : ∀ e : Ef, (EF e).blocks = []
  | .mk a b c d es => by simp only [EF, AV.blocks, AV.blockss, bl_EFs es, List.append_nil]
theorem bl_EFs : ∀ es : List Ef, AV.blockss (EFs es) = []
  | [] => rfl
  | e :: es => by simp only [EFs, AV.blockss, bl_EF1 e, bl_EFs es, List.append_nil]
end
theorem fr_EFm (es : List Ef) : AV.frees (es.map EF) = true := by rw [← EFs_map]; exact fr_EFs es
theorem bl_EFm (es : List Ef) : AV.blockss (es.map EF) = [] := by rw [← EFs_map]; exact bl_EFs es
theorem fr_eC (e : Ef) : AV.frees (eC e) = true := by simp only [eC, AV.frees, AV.free, fr_EFm, Bool.and_self]
theorem bl_eC (e : Ef) : AV.blockss (eC e) = [] := by simp only [eC, AV.blockss, AV.blocks, bl_EFm, List.append_nil]
structure Ab where
  when : Int
  cost : List Int
  tap : Bool
  target : Int
  eff : Ef
  fx : Bool
  deriving Inhabited
def a0 : Ab := ⟨0, [], false, 0, e0, false⟩
def aC (a : Ab) : List AV := [I a.when, I (a.cost.getD 0 0), I (a.cost.getD 1 0), I (a.cost.getD 2 0), I (a.cost.getD 3 0), I (a.cost.getD 4 0), I (a.cost.getD 5 0), .bool a.tap, I a.target, I a.eff.op, I a.eff.n, I a.eff.m, I a.eff.who, .list (a.eff.subs.map EF) false]
def A (a : Ab) : AV := .agg (aC a)
def aD (a : Ab) : List AV := [I a.when, I (a.cost.getD 0 0), I (a.cost.getD 1 0), I (a.cost.getD 2 0), I (a.cost.getD 3 0), I (a.cost.getD 4 0), I (a.cost.getD 5 0), .bool a.tap, I a.target, I a.eff.op, I a.eff.n, I a.eff.m, I a.eff.who, .list (a.eff.subs.map EF) a.fx]
def AD (a : Ab) : AV := .agg (aD a)
theorem fr_aD (a : Ab) : AV.frees (aD a) = true := by simp only [aD, AV.frees, AV.free, fr_EFm, Bool.and_self]
theorem bl_aD (a : Ab) : AV.blockss (aD a) = [] := by simp only [aD, AV.blockss, AV.blocks, bl_EFm, List.append_nil]
theorem fr_ADm (l : List Ab) : AV.frees (l.map AD) = true := frees_map (fun a => by simp only [AD, AV.free, fr_aD]) l
theorem bl_ADm (l : List Ab) : AV.blockss (l.map AD) = [] := blockss_map (fun a => by simp only [AD, AV.blocks, bl_aD]) l
theorem fr_aC (a : Ab) : AV.frees (aC a) = true := by simp only [aC, AV.frees, AV.free, fr_EFm, Bool.and_self]
theorem bl_aC (a : Ab) : AV.blockss (aC a) = [] := by simp only [aC, AV.blockss, AV.blocks, bl_EFm, List.append_nil]
theorem fr_Am (l : List Ab) : AV.frees (l.map A) = true := frees_map (fun a => by simp only [A, AV.free, fr_aC]) l
theorem bl_Am (l : List Ab) : AV.blockss (l.map A) = [] := blockss_map (fun a => by simp only [A, AV.blocks, bl_aC]) l
structure Cd where
  kind : Int
  colour : Int
  fast : Bool
  cost : List Int
  power : Int
  tough : Int
  says : Int
  abs : List Ab
  deriving Inhabited
def c0 : Cd := ⟨0, 0, false, [], 0, 0, 0, []⟩
def cC (c : Cd) : List AV := [I c.kind, I c.colour, .bool c.fast, I (c.cost.getD 0 0), I (c.cost.getD 1 0), I (c.cost.getD 2 0), I (c.cost.getD 3 0), I (c.cost.getD 4 0), I (c.cost.getD 5 0), I c.power, I c.tough, I c.says, .list (c.abs.map A) false]
def cD (c : Cd) : List AV := [I c.kind, I c.colour, .bool c.fast, I (c.cost.getD 0 0), I (c.cost.getD 1 0), I (c.cost.getD 2 0), I (c.cost.getD 3 0), I (c.cost.getD 4 0), I (c.cost.getD 5 0), I c.power, I c.tough, I c.says, .list (c.abs.map AD) false]
theorem fr_cD (c : Cd) : AV.frees (cD c) = true := by simp only [cD, AV.frees, AV.free, fr_ADm, Bool.and_self]
theorem bl_cD (c : Cd) : AV.blockss (cD c) = [] := by simp only [cD, AV.blockss, AV.blocks, bl_ADm, List.append_nil]
theorem fr_cC (c : Cd) : AV.frees (cC c) = true := by simp only [cC, AV.frees, AV.free, fr_Am, Bool.and_self]
theorem bl_cC (c : Cd) : AV.blockss (cC c) = [] := by simp only [cC, AV.blockss, AV.blocks, bl_Am, List.append_nil]
def cards : List Cd := [
  ⟨0, 0, false, [0, 0, 0, 0, 0, 0], 0, 0, 0, [⟨6, [0, 0, 0, 0, 0, 0], true, 0, (.mk 15 1 0 0 []), false⟩]⟩,
  ⟨0, 1, false, [0, 0, 0, 0, 0, 0], 0, 0, 0, [⟨6, [0, 0, 0, 0, 0, 0], true, 0, (.mk 15 1 1 0 []), false⟩]⟩,
  ⟨0, 2, false, [0, 0, 0, 0, 0, 0], 0, 0, 0, [⟨6, [0, 0, 0, 0, 0, 0], true, 0, (.mk 15 1 2 0 []), false⟩]⟩,
  ⟨0, 3, false, [0, 0, 0, 0, 0, 0], 0, 0, 0, [⟨6, [0, 0, 0, 0, 0, 0], true, 0, (.mk 15 1 3 0 []), false⟩]⟩,
  ⟨0, 4, false, [0, 0, 0, 0, 0, 0], 0, 0, 0, [⟨6, [0, 0, 0, 0, 0, 0], true, 0, (.mk 15 1 4 0 []), false⟩]⟩,
  ⟨0, 5, false, [0, 0, 0, 0, 0, 0], 0, 0, 0, [⟨2, [0, 0, 0, 0, 0, 0], false, 0, (.mk 3 1 0 0 []), true⟩, ⟨6, [0, 0, 0, 0, 0, 0], true, 0, (.mk 15 1 5 0 []), false⟩]⟩,
  ⟨0, 5, false, [0, 0, 0, 0, 0, 0], 0, 0, 0, [⟨2, [0, 0, 0, 0, 0, 0], false, 0, (.mk 3 2 0 0 []), true⟩, ⟨6, [0, 0, 0, 0, 0, 0], true, 0, (.mk 15 1 5 0 []), false⟩]⟩,
  ⟨0, 5, false, [0, 0, 0, 0, 0, 0], 0, 0, 0, [⟨2, [0, 0, 0, 0, 0, 0], false, 0, (.mk 3 3 0 0 []), true⟩, ⟨6, [0, 0, 0, 0, 0, 0], true, 0, (.mk 15 2 5 0 []), false⟩]⟩,
  ⟨0, 5, false, [0, 0, 0, 0, 0, 0], 0, 0, 0, [⟨2, [0, 0, 0, 0, 0, 0], false, 0, (.mk 3 4 0 0 []), true⟩, ⟨6, [0, 0, 0, 0, 0, 0], true, 0, (.mk 15 2 5 0 []), false⟩]⟩,
  ⟨0, 5, false, [0, 0, 0, 0, 0, 0], 0, 0, 0, [⟨2, [0, 0, 0, 0, 0, 0], false, 0, (.mk 3 5 0 0 []), true⟩, ⟨6, [0, 0, 0, 0, 0, 0], true, 0, (.mk 15 3 5 0 []), false⟩]⟩,
  ⟨1, 0, false, [1, 0, 0, 0, 0, 0], 1, 1, 1, [⟨2, [0, 0, 0, 0, 0, 0], false, 0, (.mk 2 1 0 0 []), true⟩]⟩,
  ⟨1, 1, false, [0, 1, 0, 0, 0, 0], 1, 1, 1, []⟩,
  ⟨1, 2, false, [0, 0, 1, 0, 0, 0], 1, 1, 1, [⟨3, [0, 0, 0, 0, 0, 0], false, 0, (.mk 3 1 0 1 []), true⟩]⟩,
  ⟨1, 3, false, [0, 0, 0, 1, 0, 0], 2, 1, 1, [⟨1, [0, 0, 0, 1, 0, 0], true, 3, (.mk 1 1 0 2 []), true⟩]⟩,
  ⟨1, 4, false, [0, 0, 0, 0, 1, 0], 1, 2, 1, [⟨1, [0, 0, 0, 0, 1, 0], false, 0, (.mk 10 1 1 3 []), true⟩]⟩,
  ⟨1, 0, false, [1, 0, 0, 0, 0, 1], 1, 2, 2, [⟨2, [0, 0, 0, 0, 0, 0], false, 0, (.mk 2 2 0 0 []), true⟩]⟩,
  ⟨1, 1, false, [0, 1, 0, 0, 0, 1], 1, 2, 2, [⟨2, [0, 0, 0, 0, 0, 0], false, 0, (.mk 4 1 0 0 []), true⟩]⟩,
  ⟨1, 2, false, [0, 0, 1, 0, 0, 1], 1, 2, 2, [⟨3, [0, 0, 0, 0, 0, 0], false, 0, (.mk 3 1 0 1 []), true⟩]⟩,
  ⟨1, 3, false, [0, 0, 0, 1, 0, 1], 2, 2, 2, [⟨1, [0, 0, 0, 1, 0, 0], true, 3, (.mk 1 1 0 2 []), true⟩]⟩,
  ⟨1, 4, false, [0, 0, 0, 0, 1, 1], 1, 3, 2, [⟨1, [0, 0, 0, 0, 1, 0], false, 0, (.mk 10 1 1 3 []), true⟩]⟩,
  ⟨1, 0, false, [1, 0, 0, 0, 0, 2], 2, 2, 4, [⟨2, [0, 0, 0, 0, 0, 0], false, 0, (.mk 2 3 0 0 []), true⟩]⟩,
  ⟨1, 1, false, [0, 1, 0, 0, 0, 2], 2, 2, 4, []⟩,
  ⟨1, 2, false, [0, 0, 1, 0, 0, 2], 2, 2, 4, [⟨3, [0, 0, 0, 0, 0, 0], false, 0, (.mk 3 2 0 1 []), true⟩]⟩,
  ⟨1, 3, false, [0, 0, 0, 1, 0, 2], 3, 2, 4, [⟨1, [0, 0, 0, 1, 0, 0], true, 3, (.mk 1 1 0 2 []), true⟩]⟩,
  ⟨1, 4, false, [0, 0, 0, 0, 1, 2], 2, 3, 4, [⟨1, [0, 0, 0, 0, 1, 0], false, 0, (.mk 10 1 1 3 []), true⟩]⟩,
  ⟨1, 0, false, [1, 0, 0, 0, 0, 3], 2, 3, 8, [⟨2, [0, 0, 0, 0, 0, 0], false, 0, (.mk 2 4 0 0 []), true⟩]⟩,
  ⟨1, 1, false, [0, 1, 0, 0, 0, 3], 2, 3, 8, [⟨2, [0, 0, 0, 0, 0, 0], false, 0, (.mk 4 1 0 0 []), true⟩]⟩,
  ⟨1, 2, false, [0, 0, 1, 0, 0, 3], 2, 3, 8, [⟨3, [0, 0, 0, 0, 0, 0], false, 0, (.mk 3 2 0 1 []), true⟩]⟩,
  ⟨1, 3, false, [0, 0, 0, 1, 0, 3], 3, 3, 8, [⟨1, [0, 0, 0, 1, 0, 0], true, 3, (.mk 1 1 0 2 []), true⟩]⟩,
  ⟨1, 4, false, [0, 0, 0, 0, 1, 3], 2, 4, 8, [⟨1, [0, 0, 0, 0, 1, 0], false, 0, (.mk 10 1 1 3 []), true⟩]⟩,
  ⟨1, 0, false, [2, 0, 0, 0, 0, 4], 3, 3, 16, [⟨2, [0, 0, 0, 0, 0, 0], false, 0, (.mk 2 5 0 0 []), true⟩]⟩,
  ⟨1, 1, false, [0, 2, 0, 0, 0, 4], 3, 3, 16, []⟩,
  ⟨1, 2, false, [0, 0, 2, 0, 0, 4], 3, 3, 16, [⟨3, [0, 0, 0, 0, 0, 0], false, 0, (.mk 3 3 0 1 []), true⟩]⟩,
  ⟨1, 3, false, [0, 0, 0, 2, 0, 4], 4, 3, 16, [⟨1, [0, 0, 0, 1, 0, 0], true, 3, (.mk 1 1 0 2 []), true⟩]⟩,
  ⟨1, 4, false, [0, 0, 0, 0, 2, 4], 3, 4, 16, [⟨1, [0, 0, 0, 0, 1, 0], false, 0, (.mk 10 1 1 3 []), true⟩]⟩,
  ⟨1, 0, false, [2, 0, 0, 0, 0, 5], 3, 4, 32, [⟨2, [0, 0, 0, 0, 0, 0], false, 0, (.mk 2 6 0 0 []), true⟩]⟩,
  ⟨1, 1, false, [0, 2, 0, 0, 0, 5], 3, 4, 32, [⟨2, [0, 0, 0, 0, 0, 0], false, 0, (.mk 4 1 0 0 []), true⟩]⟩,
  ⟨1, 2, false, [0, 0, 2, 0, 0, 5], 3, 4, 32, [⟨3, [0, 0, 0, 0, 0, 0], false, 0, (.mk 3 3 0 1 []), true⟩]⟩,
  ⟨1, 3, false, [0, 0, 0, 2, 0, 5], 4, 4, 32, [⟨1, [0, 0, 0, 1, 0, 0], true, 3, (.mk 1 1 0 2 []), true⟩]⟩,
  ⟨1, 4, false, [0, 0, 0, 0, 2, 5], 3, 5, 32, [⟨1, [0, 0, 0, 0, 1, 0], false, 0, (.mk 10 1 1 3 []), true⟩]⟩,
  ⟨1, 0, false, [2, 0, 0, 0, 0, 6], 4, 4, 64, [⟨2, [0, 0, 0, 0, 0, 0], false, 0, (.mk 2 7 0 0 []), true⟩]⟩,
  ⟨1, 1, false, [0, 2, 0, 0, 0, 6], 4, 4, 64, []⟩,
  ⟨1, 2, false, [0, 0, 2, 0, 0, 6], 4, 4, 64, [⟨3, [0, 0, 0, 0, 0, 0], false, 0, (.mk 3 4 0 1 []), true⟩]⟩,
  ⟨1, 3, false, [0, 0, 0, 2, 0, 6], 5, 4, 64, [⟨1, [0, 0, 0, 1, 0, 0], true, 3, (.mk 1 1 0 2 []), true⟩]⟩,
  ⟨1, 4, false, [0, 0, 0, 0, 2, 6], 4, 5, 64, [⟨1, [0, 0, 0, 0, 1, 0], false, 0, (.mk 10 1 1 3 []), true⟩]⟩,
  ⟨1, 0, false, [2, 0, 0, 0, 0, 7], 4, 5, 128, [⟨2, [0, 0, 0, 0, 0, 0], false, 0, (.mk 2 8 0 0 []), true⟩]⟩,
  ⟨1, 1, false, [0, 2, 0, 0, 0, 7], 4, 5, 128, [⟨2, [0, 0, 0, 0, 0, 0], false, 0, (.mk 4 1 0 0 []), true⟩]⟩,
  ⟨1, 2, false, [0, 0, 2, 0, 0, 7], 4, 5, 128, [⟨3, [0, 0, 0, 0, 0, 0], false, 0, (.mk 3 4 0 1 []), true⟩]⟩,
  ⟨1, 3, false, [0, 0, 0, 2, 0, 7], 5, 5, 128, [⟨1, [0, 0, 0, 1, 0, 0], true, 3, (.mk 1 1 0 2 []), true⟩]⟩,
  ⟨1, 4, false, [0, 0, 0, 0, 2, 7], 4, 6, 128, [⟨1, [0, 0, 0, 0, 1, 0], false, 0, (.mk 10 1 1 3 []), true⟩]⟩,
  ⟨2, 0, true, [1, 0, 0, 0, 0, 0], 0, 0, 0, [⟨0, [0, 0, 0, 0, 0, 0], false, 0, (.mk 2 4 0 0 []), false⟩]⟩,
  ⟨2, 1, true, [0, 1, 0, 0, 0, 0], 0, 0, 0, [⟨0, [0, 0, 0, 0, 0, 0], false, 4, (.mk 9 0 0 2 []), false⟩]⟩,
  ⟨2, 2, true, [0, 0, 1, 0, 0, 0], 0, 0, 0, [⟨0, [0, 0, 0, 0, 0, 0], false, 1, (.mk 10 (-2) (-2) 2 []), false⟩]⟩,
  ⟨2, 3, true, [0, 0, 0, 1, 0, 0], 0, 0, 0, [⟨0, [0, 0, 0, 0, 0, 0], false, 3, (.mk 1 2 0 2 []), false⟩]⟩,
  ⟨2, 4, true, [0, 0, 0, 0, 1, 0], 0, 0, 0, [⟨0, [0, 0, 0, 0, 0, 0], false, 1, (.mk 10 3 3 2 []), false⟩]⟩,
  ⟨2, 0, false, [1, 0, 0, 0, 0, 1], 0, 0, 0, [⟨0, [0, 0, 0, 0, 0, 0], false, 1, (.mk 6 0 0 2 []), false⟩]⟩,
  ⟨2, 1, false, [0, 1, 0, 0, 0, 1], 0, 0, 0, [⟨0, [0, 0, 0, 0, 0, 0], false, 0, (.mk 4 2 0 0 []), false⟩]⟩,
  ⟨2, 2, false, [0, 0, 1, 0, 0, 1], 0, 0, 0, [⟨0, [0, 0, 0, 0, 0, 0], false, 2, (.mk 19 1 0 2 []), false⟩]⟩,
  ⟨2, 3, false, [0, 0, 0, 1, 0, 1], 0, 0, 0, [⟨0, [0, 0, 0, 0, 0, 0], false, 1, (.mk 1 4 0 2 []), false⟩]⟩,
  ⟨2, 4, false, [0, 0, 0, 0, 1, 1], 0, 0, 0, [⟨0, [0, 0, 0, 0, 0, 0], false, 1, (.mk 11 2 0 2 []), false⟩]⟩,
  ⟨2, 0, true, [1, 0, 0, 0, 0, 2], 0, 0, 0, [⟨0, [0, 0, 0, 0, 0, 0], false, 0, (.mk 20 1 0 0 [(.mk 10 1 1 2 [])]), false⟩]⟩,
  ⟨2, 1, true, [0, 1, 0, 0, 0, 2], 0, 0, 0, [⟨0, [0, 0, 0, 0, 0, 0], false, 5, (.mk 7 0 0 2 []), false⟩]⟩,
  ⟨2, 2, true, [0, 0, 1, 0, 0, 2], 0, 0, 0, [⟨0, [0, 0, 0, 0, 0, 0], false, 2, (.mk 3 3 0 2 []), false⟩]⟩,
  ⟨2, 3, true, [0, 0, 0, 1, 0, 2], 0, 0, 0, [⟨0, [0, 0, 0, 0, 0, 0], false, 1, (.mk 10 3 0 2 []), false⟩]⟩,
  ⟨2, 4, true, [0, 0, 0, 0, 1, 2], 0, 0, 0, [⟨0, [0, 0, 0, 0, 0, 0], false, 1, (.mk 23 64 0 2 []), false⟩]⟩,
  ⟨2, 0, false, [1, 0, 0, 0, 0, 3], 0, 0, 0, [⟨0, [0, 0, 0, 0, 0, 0], false, 5, (.mk 8 0 0 2 []), false⟩]⟩,
  ⟨2, 1, false, [0, 1, 0, 0, 0, 3], 0, 0, 0, [⟨0, [0, 0, 0, 0, 0, 0], false, 0, (.mk 17 3 0 0 []), false⟩]⟩,
  ⟨2, 2, false, [0, 0, 1, 0, 0, 3], 0, 0, 0, [⟨0, [0, 0, 0, 0, 0, 0], false, 0, (.mk 21 0 0 0 [(.mk 3 2 0 1 []), (.mk 2 2 0 0 [])]), false⟩]⟩,
  ⟨2, 3, false, [0, 0, 0, 1, 0, 3], 0, 0, 0, [⟨0, [0, 0, 0, 0, 0, 0], false, 0, (.mk 20 0 0 0 [(.mk 1 2 0 2 [])]), false⟩]⟩,
  ⟨2, 4, false, [0, 0, 0, 0, 1, 3], 0, 0, 0, [⟨0, [0, 0, 0, 0, 0, 0], false, 0, (.mk 14 2 116 0 []), false⟩]⟩,
  ⟨2, 0, true, [1, 0, 0, 0, 0, 4], 0, 0, 0, [⟨0, [0, 0, 0, 0, 0, 0], false, 0, (.mk 21 0 0 0 [(.mk 2 2 0 0 []), (.mk 4 1 0 0 [])]), false⟩]⟩,
  ⟨2, 1, true, [0, 1, 0, 0, 0, 4], 0, 0, 0, [⟨0, [0, 0, 0, 0, 0, 0], false, 1, (.mk 12 0 0 2 []), false⟩]⟩,
  ⟨2, 2, true, [0, 0, 1, 0, 0, 4], 0, 0, 0, [⟨0, [0, 0, 0, 0, 0, 0], false, 1, (.mk 6 0 0 2 []), false⟩]⟩,
  ⟨2, 3, true, [0, 0, 0, 1, 0, 4], 0, 0, 0, [⟨0, [0, 0, 0, 0, 0, 0], false, 0, (.mk 1 3 0 4 []), false⟩]⟩,
  ⟨2, 4, true, [0, 0, 0, 0, 1, 4], 0, 0, 0, [⟨0, [0, 0, 0, 0, 0, 0], false, 0, (.mk 15 3 4 0 []), false⟩]⟩,
  ⟨2, 0, false, [1, 0, 0, 0, 0, 5], 0, 0, 0, [⟨0, [0, 0, 0, 0, 0, 0], false, 0, (.mk 22 0 10 0 [(.mk 2 8 0 0 []), (.mk 4 1 0 0 [])]), false⟩]⟩,
  ⟨2, 1, false, [0, 1, 0, 0, 0, 5], 0, 0, 0, [⟨0, [0, 0, 0, 0, 0, 0], false, 0, (.mk 21 0 0 0 [(.mk 4 3 0 0 []), (.mk 19 1 0 0 [])]), false⟩]⟩,
  ⟨2, 2, false, [0, 0, 1, 0, 0, 5], 0, 0, 0, [⟨0, [0, 0, 0, 0, 0, 0], false, 0, (.mk 5 4 0 4 []), false⟩]⟩,
  ⟨2, 3, false, [0, 0, 0, 1, 0, 5], 0, 0, 0, [⟨0, [0, 0, 0, 0, 0, 0], false, 3, (.mk 21 0 0 0 [(.mk 1 2 0 2 []), (.mk 4 1 0 0 [])]), false⟩]⟩,
  ⟨2, 4, false, [0, 0, 0, 0, 1, 5], 0, 0, 0, [⟨0, [0, 0, 0, 0, 0, 0], false, 0, (.mk 20 1 0 0 [(.mk 11 1 0 2 [])]), false⟩]⟩,
  ⟨3, 0, false, [1, 0, 0, 0, 0, 1], 0, 0, 0, [⟨5, [0, 0, 0, 0, 0, 0], false, 0, (.mk 20 1 0 0 [(.mk 10 0 2 2 [])]), false⟩]⟩,
  ⟨3, 1, false, [0, 1, 0, 0, 0, 1], 0, 0, 0, [⟨5, [0, 0, 0, 0, 0, 0], false, 0, (.mk 20 1 0 0 [(.mk 23 1 0 2 [])]), false⟩]⟩,
  ⟨3, 2, false, [0, 0, 1, 0, 0, 1], 0, 0, 0, [⟨5, [0, 0, 0, 0, 0, 0], false, 0, (.mk 20 2 0 0 [(.mk 10 (-1) 0 2 [])]), false⟩]⟩,
  ⟨3, 3, false, [0, 0, 0, 1, 0, 1], 0, 0, 0, [⟨5, [0, 0, 0, 0, 0, 0], false, 0, (.mk 20 1 0 0 [(.mk 10 1 0 2 [])]), false⟩]⟩,
  ⟨3, 4, false, [0, 0, 0, 0, 1, 1], 0, 0, 0, [⟨5, [0, 0, 0, 0, 0, 0], false, 0, (.mk 20 1 0 0 [(.mk 10 1 1 2 [])]), false⟩]⟩,
  ⟨3, 0, false, [1, 0, 0, 0, 0, 2], 0, 0, 0, [⟨4, [0, 0, 0, 0, 0, 0], false, 0, (.mk 2 1 0 0 []), false⟩]⟩,
  ⟨3, 1, false, [0, 1, 0, 0, 0, 2], 0, 0, 0, [⟨4, [0, 0, 0, 0, 0, 0], false, 0, (.mk 17 1 0 0 []), false⟩]⟩,
  ⟨3, 2, false, [0, 0, 1, 0, 0, 2], 0, 0, 0, [⟨4, [0, 0, 0, 0, 0, 0], false, 0, (.mk 3 1 0 4 []), false⟩]⟩,
  ⟨3, 3, false, [0, 0, 0, 1, 0, 2], 0, 0, 0, [⟨4, [0, 0, 0, 0, 0, 0], false, 0, (.mk 1 1 0 1 []), false⟩]⟩,
  ⟨3, 4, false, [0, 0, 0, 0, 1, 2], 0, 0, 0, [⟨4, [0, 0, 0, 0, 0, 0], false, 0, (.mk 15 1 4 0 []), false⟩]⟩,
  ⟨3, 0, false, [1, 0, 0, 0, 0, 3], 0, 0, 0, [⟨1, [0, 0, 0, 0, 0, 1], true, 1, (.mk 10 0 1 2 []), false⟩]⟩,
  ⟨3, 1, false, [0, 1, 0, 0, 0, 3], 0, 0, 0, [⟨1, [0, 0, 0, 0, 0, 1], true, 1, (.mk 12 0 0 2 []), false⟩]⟩,
  ⟨3, 2, false, [0, 0, 1, 0, 0, 3], 0, 0, 0, [⟨1, [0, 0, 0, 0, 0, 1], true, 0, (.mk 3 1 0 1 []), false⟩]⟩,
  ⟨3, 3, false, [0, 0, 0, 1, 0, 3], 0, 0, 0, [⟨1, [0, 0, 0, 0, 0, 1], true, 3, (.mk 1 1 0 2 []), false⟩]⟩,
  ⟨3, 4, false, [0, 0, 0, 0, 1, 3], 0, 0, 0, [⟨1, [0, 0, 0, 0, 0, 1], true, 1, (.mk 13 0 0 2 []), false⟩]⟩,
  ⟨3, 0, false, [1, 0, 0, 0, 0, 4], 0, 0, 0, [⟨5, [0, 0, 0, 0, 0, 0], false, 0, (.mk 20 0 0 0 [(.mk 25 1 0 2 [])]), false⟩]⟩,
  ⟨3, 1, false, [0, 1, 0, 0, 0, 4], 0, 0, 0, [⟨1, [0, 1, 0, 0, 0, 0], false, 0, (.mk 13 0 0 3 []), false⟩]⟩,
  ⟨3, 2, false, [0, 0, 1, 0, 0, 4], 0, 0, 0, [⟨5, [0, 0, 0, 0, 0, 0], false, 0, (.mk 20 2 0 0 [(.mk 24 1 1 2 [])]), false⟩]⟩,
  ⟨3, 3, false, [0, 0, 0, 1, 0, 4], 0, 0, 0, [⟨3, [0, 0, 0, 0, 0, 0], false, 0, (.mk 1 3 0 4 []), false⟩]⟩,
  ⟨3, 4, false, [0, 0, 0, 0, 1, 4], 0, 0, 0, [⟨2, [0, 0, 0, 0, 0, 0], false, 0, (.mk 14 1 119 0 []), false⟩]⟩,
  ⟨2, 5, false, [0, 0, 0, 0, 0, 1], 0, 0, 0, [⟨0, [0, 0, 0, 0, 0, 0], false, 0, (.mk 18 0 0 0 []), false⟩]⟩,
  ⟨2, 5, false, [0, 0, 0, 0, 0, 2], 0, 0, 0, [⟨0, [0, 0, 0, 0, 0, 0], false, 0, (.mk 19 2 0 1 []), false⟩]⟩,
  ⟨2, 5, false, [0, 0, 0, 0, 0, 1], 0, 0, 0, [⟨0, [0, 0, 0, 0, 0, 0], false, 0, (.mk 16 3 0 1 []), false⟩]⟩,
  ⟨2, 5, true, [0, 0, 0, 0, 0, 1], 0, 0, 0, [⟨0, [0, 0, 0, 0, 0, 0], false, 0, (.mk 17 2 0 1 []), false⟩]⟩,
  ⟨2, 5, false, [0, 0, 0, 0, 0, 2], 0, 0, 0, [⟨0, [0, 0, 0, 0, 0, 0], false, 0, (.mk 5 3 0 4 []), false⟩]⟩,
  ⟨2, 5, true, [0, 0, 0, 0, 0, 3], 0, 0, 0, [⟨0, [0, 0, 0, 0, 0, 0], false, 4, (.mk 9 0 0 2 []), false⟩]⟩,
  ⟨2, 5, false, [0, 0, 0, 0, 0, 2], 0, 0, 0, [⟨0, [0, 0, 0, 0, 0, 0], false, 0, (.mk 20 0 0 0 [(.mk 7 0 0 2 [])]), false⟩]⟩,
  ⟨3, 5, false, [0, 0, 0, 0, 0, 2], 0, 0, 0, [⟨1, [0, 0, 0, 0, 0, 0], false, 0, (.mk 15 1 5 0 []), false⟩]⟩,
  ⟨1, 5, false, [0, 0, 0, 0, 0, 2], 1, 1, 0, [⟨1, [0, 0, 0, 0, 0, 1], false, 0, (.mk 13 0 0 3 []), false⟩, ⟨6, [0, 0, 0, 0, 0, 0], true, 0, (.mk 15 2 5 0 []), false⟩]⟩,
  ⟨2, 5, false, [0, 0, 0, 0, 0, 3], 0, 0, 0, [⟨0, [0, 0, 0, 0, 0, 0], false, 0, (.mk 14 2 112 0 []), false⟩]⟩,
  ⟨2, 5, false, [0, 0, 0, 0, 0, 4], 0, 0, 0, [⟨0, [0, 0, 0, 0, 0, 0], false, 0, (.mk 20 0 0 0 [(.mk 6 0 0 2 [])]), false⟩]⟩,
  ⟨1, 5, true, [0, 0, 0, 0, 0, 3], 2, 3, 5, [⟨3, [0, 0, 0, 0, 0, 0], false, 0, (.mk 4 1 0 0 []), false⟩]⟩,
  ⟨1, 5, false, [0, 0, 0, 0, 0, 0], 1, 1, 0, []⟩,
  ⟨1, 5, false, [0, 0, 0, 0, 0, 0], 1, 1, 1, []⟩,
  ⟨1, 5, false, [0, 0, 0, 0, 0, 0], 2, 2, 0, []⟩,
  ⟨1, 5, false, [0, 0, 0, 0, 0, 0], 2, 2, 1, []⟩,
  ⟨1, 5, false, [0, 0, 0, 0, 0, 0], 3, 3, 0, []⟩,
  ⟨1, 5, false, [0, 0, 0, 0, 0, 0], 3, 3, 1, []⟩,
  ⟨1, 5, false, [0, 0, 0, 0, 0, 0], 4, 4, 0, []⟩,
  ⟨1, 5, false, [0, 0, 0, 0, 0, 0], 4, 4, 1, []⟩]
def cdN (n : Int) : Cd := cards.getD n.toNat c0
end Go.Abs.Z
