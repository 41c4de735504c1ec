/-
  Walks of small functions. Each under its own conditions.
-/
import Derived.Test.YthdhilmjjdnlcaaGreatDoorS
set_option linter.unusedSimpArgs false
set_option linter.unusedVariables false

/- Walks. -/
namespace Go.Abs.S22
open Go Go.Abs Go.Proofs

theorem has_w : ∀ k (lo hi n : Int) σ, 60 ≤ k → readW (callW Tryz.prog (exec Tryz.prog cfg k)) 105 [.agg [I lo, I hi], I n] σ = some (.bool (decide (n ≥ lo ∧ n ≤ hi)), σ) := by
 intro k lo hi n σ hk
 obtain ⟨k, rfl⟩ : ∃ k', k = k' + 60 := ⟨k - 60, by omega⟩
 refine reader_of Tryz.func105 rfl (by simp only [AV.frees, AV.free, fr_I, fr_E, fr_cO, fr_cL, fr_cS, Bool.and_self]) ?_
 refine X.seq (X.region (OK.seg 2 (by kernel_rfl) (OK.nil ?_)))
 refine X.seq (X.region (OK.seg 3 (by kernel_rfl) ?_))
 refine OK.dec (n ≥ lo) (by kernel_rfl) (by kernel_rfl) (fun h1 => ?_) (fun h1 => ?_)
 rotate_left
 ·
  refine OK.seg 7 (by kernel_rfl) (OK.nil ?_)
  refine X.ret ?_
  exact ⟨rfl, giv (r := .bool false) (by kernel_rfl) (bool_f (p := n ≥ lo ∧ n ≤ hi) (by omega))⟩
 refine OK.seg 4 (by kernel_rfl) ?_
 refine OK.dec (n ≤ hi) (by kernel_rfl) (by kernel_rfl) (fun h2 => ?_) (fun h2 => ?_)
 ·
  refine OK.seg 2 (by kernel_rfl) (OK.nil ?_)
  refine X.ret ?_
  exact ⟨rfl, giv (r := .bool true) (by kernel_rfl) (bool_t (p := n ≥ lo ∧ n ≤ hi) (by omega))⟩
 refine OK.seg 2 (by kernel_rfl) (OK.nil ?_)
 refine X.ret ?_
 exact ⟨rfl, giv (r := .bool false) (by kernel_rfl) (bool_f (p := n ≥ lo ∧ n ≤ hi) (by omega))⟩

def bC (m : Int) : List AV := [I 0, I 119, I 0, I 1, I 0, I 1, I 0, I 10, I 0, I 1, I 0, I 1, I 0, I 1073741824, I 0, I 1073741824, I (-1073741824), I 1073741824, I (-1073741824), I 1073741824, I 0, I 255, I 0, I 1, I 0, I m, I 0, I 2, I 0, I 3, I 0, I m, I (-2), I m, I 0, I 3]

theorem objects_w : ∀ k (m : Int) σ, 60 ≤ k → readW (callW Tryz.prog (exec Tryz.prog cfg k)) 104 [I m] σ = some (.agg (bC m), σ) := by
  intro k m σ hk
  obtain ⟨k, rfl⟩ : ∃ k', k = k' + 60 := ⟨k - 60, by omega⟩
  kernel_rfl

def pC : List AV := [I (-1073741824), I 1073741824, I 0, I 1000, I 0, I 1000, I 0, I 1000, I 0, I 1000, I 0, I 1000, I 0, I 1000, I 0, I 1, I 0, I 1]

theorem players_w : ∀ k  σ, 60 ≤ k → readW (callW Tryz.prog (exec Tryz.prog cfg k)) 106 [] σ = some (.agg (pC), σ) := by
  intro k  σ hk
  obtain ⟨k, rfl⟩ : ∃ k', k = k' + 60 := ⟨k - 60, by omega⟩
  kernel_rfl

def gC : List AV := [I 0, I 1073741824, I 0, I 1, I 0, I 7, I 0, I 1, I 0, I 1, I 0, I 4096, I 0, I 3]

theorem game_w : ∀ k  σ, 60 ≤ k → readW (callW Tryz.prog (exec Tryz.prog cfg k)) 107 [] σ = some (.agg (gC), σ) := by
  intro k  σ hk
  obtain ⟨k, rfl⟩ : ∃ k', k = k' + 60 := ⟨k - 60, by omega⟩
  kernel_rfl

def big (s : St) (MM : Nat) : Prop := s.objs.length > MM ∨ (s.ls 0).length > MM + 10 ∨ (s.ls 1).length > MM + 10 ∨ (s.ls 2).length > MM + 10 ∨ (s.ls 3).length > MM + 10 ∨ (s.ls 4).length > MM + 10 ∨ (s.ls 5).length > MM + 10 ∨ (s.ls 6).length > MM + 10 ∨ (s.ls 7).length > MM + 10 ∨ (s.ls 8).length > MM + 10 ∨ (s.ls 9).length > MM + 10 ∨ (s.ls 10).length > MM + 10
instance (s : St) (m : Nat) : Decidable (big s m) := by unfold big; infer_instance

theorem Long_w : ∀ k (s : St) σ, 60 ≤ k → readW (callW Tryz.prog (exec Tryz.prog cfg k)) 8 [.agg (cS s), I 40] σ = some (.bool (decide (big s 40)), σ) := by
 intro k s σ hk
 obtain ⟨k, rfl⟩ : ∃ k', k = k' + 60 := ⟨k - 60, by omega⟩
 refine reader_of Tryz.func8 rfl (by simp only [AV.frees, AV.free, fr_I, fr_E, fr_cO, fr_cL, fr_cS, Bool.and_self]) ?_
 refine X.seq (X.region (OK.seg 2 (by kernel_rfl) (OK.nil ?_)))
 refine X.seq (X.seq (X.region (OK.seg 4 (by kernel_rfl) ?_)))
 refine OK.dec (((((s.objs).map E).length : Nat) : Int) > 40) (by kernel_rfl) (by kernel_rfl) (fun h1 => ?_) (fun h1 => ?_)
 ·
  refine OK.nil ?_
  refine X.condT (by kernel_rfl) ?_
  refine X.seq (X.region (OK.seg 1 (by kernel_rfl) (OK.nil ?_)))
  refine X.ret ?_
  exact ⟨rfl, giv (r := .bool true) (by kernel_rfl) (bool_t (p := big s 40) (by simp only [big, List.length_map] at *; omega))⟩
 refine OK.nil ?_
 refine X.condF (by kernel_rfl) ?_
 refine X.skip (X.seq (X.seq (X.region (OK.seg 3 (by kernel_rfl) (OK.nil ?_)))))
 refine X.block ?_
 refine X.at ([.agg (cS s), I 40, .ptr 0 0, undefA, .bool false, undefA, undefA, .ptr 0 0, .list ((s.objs).map E) false, I ((((s.objs).map E).length : Nat) : Int), I 40, .bool false, .ptr 0 1, .agg (cL s.ls), I 0] ++ List.replicate 8 undefA : List AV) [.box (cS s) false] (by kernel_rfl) (by kernel_rfl) ?_
 refine X.loop1 (by kernel_rfl) ?_
 refine X.seq (X.region (OK.seg 1 (by kernel_rfl) (OK.nil ?_)))
 refine X.seq (X.condT (by kernel_rfl) ?_)
 refine X.skip (X.seq (X.block (X.seq (X.region (OK.seg 2 (by kernel_rfl) (OK.nil ?_))))))
 refine X.seq (X.region (OK.seg 4 (by kernel_rfl) ?_))
 refine OK.dec (((((s.ls 0).map I).length : Nat) : Int) > 50) (by kernel_rfl) (by kernel_rfl) (fun h2 => ?_) (fun h2 => ?_)
 ·
  refine OK.nil ?_
  refine X.condT (by kernel_rfl) ?_
  refine X.seq (X.region (OK.seg 1 (by kernel_rfl) (OK.nil ?_)))
  refine X.ret ?_
  exact ⟨rfl, giv (r := .bool true) (by kernel_rfl) (bool_t (p := big s 40) (by simp only [big, List.length_map] at *; omega))⟩
 refine OK.nil ?_
 refine X.condF (by kernel_rfl) ?_
 refine X.skip (X.region (OK.seg 2 (by kernel_rfl) (OK.nil ?_)))
 show X _ _ _ _ _ _ _ _ _
 refine X.at [.agg (cS s), I 40, .ptr 0 0, undefA, .bool false, undefA, .list ((s.ls 0).map I) false, .ptr 0 0, .list ((s.objs).map E) false, I ((((s.objs).map E).length : Nat) : Int), I 40, .bool false, .ptr 0 1, .agg (cL s.ls), I 1, .bool true, .list ((s.ls 0).map I) false, .list ((s.ls 0).map I) false, I ((((s.ls 0).map I).length : Nat) : Int), I 40, I 50, .bool false, I 1] [.box (cS s) false] (by kernel_rfl) (by kernel_rfl) ?_
 refine X.loop1 (by kernel_rfl) ?_
 refine X.seq (X.region (OK.seg 1 (by kernel_rfl) (OK.nil ?_)))
 refine X.seq (X.condT (by kernel_rfl) ?_)
 refine X.skip (X.seq (X.block (X.seq (X.region (OK.seg 2 (by kernel_rfl) (OK.nil ?_))))))
 refine X.seq (X.region (OK.seg 4 (by kernel_rfl) ?_))
 refine OK.dec (((((s.ls 1).map I).length : Nat) : Int) > 50) (by kernel_rfl) (by kernel_rfl) (fun h3 => ?_) (fun h3 => ?_)
 ·
  refine OK.nil ?_
  refine X.condT (by kernel_rfl) ?_
  refine X.seq (X.region (OK.seg 1 (by kernel_rfl) (OK.nil ?_)))
  refine X.ret ?_
  exact ⟨rfl, giv (r := .bool true) (by kernel_rfl) (bool_t (p := big s 40) (by simp only [big, List.length_map] at *; omega))⟩
 refine OK.nil ?_
 refine X.condF (by kernel_rfl) ?_
 refine X.skip (X.region (OK.seg 2 (by kernel_rfl) (OK.nil ?_)))
 show X _ _ _ _ _ _ _ _ _
 refine X.at [.agg (cS s), I 40, .ptr 0 0, undefA, .bool false, undefA, .list ((s.ls 1).map I) false, .ptr 0 0, .list ((s.objs).map E) false, I ((((s.objs).map E).length : Nat) : Int), I 40, .bool false, .ptr 0 1, .agg (cL s.ls), I 2, .bool true, .list ((s.ls 1).map I) false, .list ((s.ls 1).map I) false, I ((((s.ls 1).map I).length : Nat) : Int), I 40, I 50, .bool false, I 2] [.box (cS s) false] (by kernel_rfl) (by kernel_rfl) ?_
 refine X.loop1 (by kernel_rfl) ?_
 refine X.seq (X.region (OK.seg 1 (by kernel_rfl) (OK.nil ?_)))
 refine X.seq (X.condT (by kernel_rfl) ?_)
 refine X.skip (X.seq (X.block (X.seq (X.region (OK.seg 2 (by kernel_rfl) (OK.nil ?_))))))
 refine X.seq (X.region (OK.seg 4 (by kernel_rfl) ?_))
 refine OK.dec (((((s.ls 2).map I).length : Nat) : Int) > 50) (by kernel_rfl) (by kernel_rfl) (fun h4 => ?_) (fun h4 => ?_)
 ·
  refine OK.nil ?_
  refine X.condT (by kernel_rfl) ?_
  refine X.seq (X.region (OK.seg 1 (by kernel_rfl) (OK.nil ?_)))
  refine X.ret ?_
  exact ⟨rfl, giv (r := .bool true) (by kernel_rfl) (bool_t (p := big s 40) (by simp only [big, List.length_map] at *; omega))⟩
 refine OK.nil ?_
 refine X.condF (by kernel_rfl) ?_
 refine X.skip (X.region (OK.seg 2 (by kernel_rfl) (OK.nil ?_)))
 show X _ _ _ _ _ _ _ _ _
 refine X.at [.agg (cS s), I 40, .ptr 0 0, undefA, .bool false, undefA, .list ((s.ls 2).map I) false, .ptr 0 0, .list ((s.objs).map E) false, I ((((s.objs).map E).length : Nat) : Int), I 40, .bool false, .ptr 0 1, .agg (cL s.ls), I 3, .bool true, .list ((s.ls 2).map I) false, .list ((s.ls 2).map I) false, I ((((s.ls 2).map I).length : Nat) : Int), I 40, I 50, .bool false, I 3] [.box (cS s) false] (by kernel_rfl) (by kernel_rfl) ?_
 refine X.loop1 (by kernel_rfl) ?_
 refine X.seq (X.region (OK.seg 1 (by kernel_rfl) (OK.nil ?_)))
 refine X.seq (X.condT (by kernel_rfl) ?_)
 refine X.skip (X.seq (X.block (X.seq (X.region (OK.seg 2 (by kernel_rfl) (OK.nil ?_))))))
 refine X.seq (X.region (OK.seg 4 (by kernel_rfl) ?_))
 refine OK.dec (((((s.ls 3).map I).length : Nat) : Int) > 50) (by kernel_rfl) (by kernel_rfl) (fun h5 => ?_) (fun h5 => ?_)
 ·
  refine OK.nil ?_
  refine X.condT (by kernel_rfl) ?_
  refine X.seq (X.region (OK.seg 1 (by kernel_rfl) (OK.nil ?_)))
  refine X.ret ?_
  exact ⟨rfl, giv (r := .bool true) (by kernel_rfl) (bool_t (p := big s 40) (by simp only [big, List.length_map] at *; omega))⟩
 refine OK.nil ?_
 refine X.condF (by kernel_rfl) ?_
 refine X.skip (X.region (OK.seg 2 (by kernel_rfl) (OK.nil ?_)))
 show X _ _ _ _ _ _ _ _ _
 refine X.at [.agg (cS s), I 40, .ptr 0 0, undefA, .bool false, undefA, .list ((s.ls 3).map I) false, .ptr 0 0, .list ((s.objs).map E) false, I ((((s.objs).map E).length : Nat) : Int), I 40, .bool false, .ptr 0 1, .agg (cL s.ls), I 4, .bool true, .list ((s.ls 3).map I) false, .list ((s.ls 3).map I) false, I ((((s.ls 3).map I).length : Nat) : Int), I 40, I 50, .bool false, I 4] [.box (cS s) false] (by kernel_rfl) (by kernel_rfl) ?_
 refine X.loop1 (by kernel_rfl) ?_
 refine X.seq (X.region (OK.seg 1 (by kernel_rfl) (OK.nil ?_)))
 refine X.seq (X.condT (by kernel_rfl) ?_)
 refine X.skip (X.seq (X.block (X.seq (X.region (OK.seg 2 (by kernel_rfl) (OK.nil ?_))))))
 refine X.seq (X.region (OK.seg 4 (by kernel_rfl) ?_))
 refine OK.dec (((((s.ls 4).map I).length : Nat) : Int) > 50) (by kernel_rfl) (by kernel_rfl) (fun h6 => ?_) (fun h6 => ?_)
 ·
  refine OK.nil ?_
  refine X.condT (by kernel_rfl) ?_
  refine X.seq (X.region (OK.seg 1 (by kernel_rfl) (OK.nil ?_)))
  refine X.ret ?_
  exact ⟨rfl, giv (r := .bool true) (by kernel_rfl) (bool_t (p := big s 40) (by simp only [big, List.length_map] at *; omega))⟩
 refine OK.nil ?_
 refine X.condF (by kernel_rfl) ?_
 refine X.skip (X.region (OK.seg 2 (by kernel_rfl) (OK.nil ?_)))
 show X _ _ _ _ _ _ _ _ _
 refine X.at [.agg (cS s), I 40, .ptr 0 0, undefA, .bool false, undefA, .list ((s.ls 4).map I) false, .ptr 0 0, .list ((s.objs).map E) false, I ((((s.objs).map E).length : Nat) : Int), I 40, .bool false, .ptr 0 1, .agg (cL s.ls), I 5, .bool true, .list ((s.ls 4).map I) false, .list ((s.ls 4).map I) false, I ((((s.ls 4).map I).length : Nat) : Int), I 40, I 50, .bool false, I 5] [.box (cS s) false] (by kernel_rfl) (by kernel_rfl) ?_
 refine X.loop1 (by kernel_rfl) ?_
 refine X.seq (X.region (OK.seg 1 (by kernel_rfl) (OK.nil ?_)))
 refine X.seq (X.condT (by kernel_rfl) ?_)
 refine X.skip (X.seq (X.block (X.seq (X.region (OK.seg 2 (by kernel_rfl) (OK.nil ?_))))))
 refine X.seq (X.region (OK.seg 4 (by kernel_rfl) ?_))
 refine OK.dec (((((s.ls 5).map I).length : Nat) : Int) > 50) (by kernel_rfl) (by kernel_rfl) (fun h7 => ?_) (fun h7 => ?_)
 ·
  refine OK.nil ?_
  refine X.condT (by kernel_rfl) ?_
  refine X.seq (X.region (OK.seg 1 (by kernel_rfl) (OK.nil ?_)))
  refine X.ret ?_
  exact ⟨rfl, giv (r := .bool true) (by kernel_rfl) (bool_t (p := big s 40) (by simp only [big, List.length_map] at *; omega))⟩
 refine OK.nil ?_
 refine X.condF (by kernel_rfl) ?_
 refine X.skip (X.region (OK.seg 2 (by kernel_rfl) (OK.nil ?_)))
 show X _ _ _ _ _ _ _ _ _
 refine X.at [.agg (cS s), I 40, .ptr 0 0, undefA, .bool false, undefA, .list ((s.ls 5).map I) false, .ptr 0 0, .list ((s.objs).map E) false, I ((((s.objs).map E).length : Nat) : Int), I 40, .bool false, .ptr 0 1, .agg (cL s.ls), I 6, .bool true, .list ((s.ls 5).map I) false, .list ((s.ls 5).map I) false, I ((((s.ls 5).map I).length : Nat) : Int), I 40, I 50, .bool false, I 6] [.box (cS s) false] (by kernel_rfl) (by kernel_rfl) ?_
 refine X.loop1 (by kernel_rfl) ?_
 refine X.seq (X.region (OK.seg 1 (by kernel_rfl) (OK.nil ?_)))
 refine X.seq (X.condT (by kernel_rfl) ?_)
 refine X.skip (X.seq (X.block (X.seq (X.region (OK.seg 2 (by kernel_rfl) (OK.nil ?_))))))
 refine X.seq (X.region (OK.seg 4 (by kernel_rfl) ?_))
 refine OK.dec (((((s.ls 6).map I).length : Nat) : Int) > 50) (by kernel_rfl) (by kernel_rfl) (fun h8 => ?_) (fun h8 => ?_)
 ·
  refine OK.nil ?_
  refine X.condT (by kernel_rfl) ?_
  refine X.seq (X.region (OK.seg 1 (by kernel_rfl) (OK.nil ?_)))
  refine X.ret ?_
  exact ⟨rfl, giv (r := .bool true) (by kernel_rfl) (bool_t (p := big s 40) (by simp only [big, List.length_map] at *; omega))⟩
 refine OK.nil ?_
 refine X.condF (by kernel_rfl) ?_
 refine X.skip (X.region (OK.seg 2 (by kernel_rfl) (OK.nil ?_)))
 show X _ _ _ _ _ _ _ _ _
 refine X.at [.agg (cS s), I 40, .ptr 0 0, undefA, .bool false, undefA, .list ((s.ls 6).map I) false, .ptr 0 0, .list ((s.objs).map E) false, I ((((s.objs).map E).length : Nat) : Int), I 40, .bool false, .ptr 0 1, .agg (cL s.ls), I 7, .bool true, .list ((s.ls 6).map I) false, .list ((s.ls 6).map I) false, I ((((s.ls 6).map I).length : Nat) : Int), I 40, I 50, .bool false, I 7] [.box (cS s) false] (by kernel_rfl) (by kernel_rfl) ?_
 refine X.loop1 (by kernel_rfl) ?_
 refine X.seq (X.region (OK.seg 1 (by kernel_rfl) (OK.nil ?_)))
 refine X.seq (X.condT (by kernel_rfl) ?_)
 refine X.skip (X.seq (X.block (X.seq (X.region (OK.seg 2 (by kernel_rfl) (OK.nil ?_))))))
 refine X.seq (X.region (OK.seg 4 (by kernel_rfl) ?_))
 refine OK.dec (((((s.ls 7).map I).length : Nat) : Int) > 50) (by kernel_rfl) (by kernel_rfl) (fun h9 => ?_) (fun h9 => ?_)
 ·
  refine OK.nil ?_
  refine X.condT (by kernel_rfl) ?_
  refine X.seq (X.region (OK.seg 1 (by kernel_rfl) (OK.nil ?_)))
  refine X.ret ?_
  exact ⟨rfl, giv (r := .bool true) (by kernel_rfl) (bool_t (p := big s 40) (by simp only [big, List.length_map] at *; omega))⟩
 refine OK.nil ?_
 refine X.condF (by kernel_rfl) ?_
 refine X.skip (X.region (OK.seg 2 (by kernel_rfl) (OK.nil ?_)))
 show X _ _ _ _ _ _ _ _ _
 refine X.at [.agg (cS s), I 40, .ptr 0 0, undefA, .bool false, undefA, .list ((s.ls 7).map I) false, .ptr 0 0, .list ((s.objs).map E) false, I ((((s.objs).map E).length : Nat) : Int), I 40, .bool false, .ptr 0 1, .agg (cL s.ls), I 8, .bool true, .list ((s.ls 7).map I) false, .list ((s.ls 7).map I) false, I ((((s.ls 7).map I).length : Nat) : Int), I 40, I 50, .bool false, I 8] [.box (cS s) false] (by kernel_rfl) (by kernel_rfl) ?_
 refine X.loop1 (by kernel_rfl) ?_
 refine X.seq (X.region (OK.seg 1 (by kernel_rfl) (OK.nil ?_)))
 refine X.seq (X.condT (by kernel_rfl) ?_)
 refine X.skip (X.seq (X.block (X.seq (X.region (OK.seg 2 (by kernel_rfl) (OK.nil ?_))))))
 refine X.seq (X.region (OK.seg 4 (by kernel_rfl) ?_))
 refine OK.dec (((((s.ls 8).map I).length : Nat) : Int) > 50) (by kernel_rfl) (by kernel_rfl) (fun h10 => ?_) (fun h10 => ?_)
 ·
  refine OK.nil ?_
  refine X.condT (by kernel_rfl) ?_
  refine X.seq (X.region (OK.seg 1 (by kernel_rfl) (OK.nil ?_)))
  refine X.ret ?_
  exact ⟨rfl, giv (r := .bool true) (by kernel_rfl) (bool_t (p := big s 40) (by simp only [big, List.length_map] at *; omega))⟩
 refine OK.nil ?_
 refine X.condF (by kernel_rfl) ?_
 refine X.skip (X.region (OK.seg 2 (by kernel_rfl) (OK.nil ?_)))
 show X _ _ _ _ _ _ _ _ _
 refine X.at [.agg (cS s), I 40, .ptr 0 0, undefA, .bool false, undefA, .list ((s.ls 8).map I) false, .ptr 0 0, .list ((s.objs).map E) false, I ((((s.objs).map E).length : Nat) : Int), I 40, .bool false, .ptr 0 1, .agg (cL s.ls), I 9, .bool true, .list ((s.ls 8).map I) false, .list ((s.ls 8).map I) false, I ((((s.ls 8).map I).length : Nat) : Int), I 40, I 50, .bool false, I 9] [.box (cS s) false] (by kernel_rfl) (by kernel_rfl) ?_
 refine X.loop1 (by kernel_rfl) ?_
 refine X.seq (X.region (OK.seg 1 (by kernel_rfl) (OK.nil ?_)))
 refine X.seq (X.condT (by kernel_rfl) ?_)
 refine X.skip (X.seq (X.block (X.seq (X.region (OK.seg 2 (by kernel_rfl) (OK.nil ?_))))))
 refine X.seq (X.region (OK.seg 4 (by kernel_rfl) ?_))
 refine OK.dec (((((s.ls 9).map I).length : Nat) : Int) > 50) (by kernel_rfl) (by kernel_rfl) (fun h11 => ?_) (fun h11 => ?_)
 ·
  refine OK.nil ?_
  refine X.condT (by kernel_rfl) ?_
  refine X.seq (X.region (OK.seg 1 (by kernel_rfl) (OK.nil ?_)))
  refine X.ret ?_
  exact ⟨rfl, giv (r := .bool true) (by kernel_rfl) (bool_t (p := big s 40) (by simp only [big, List.length_map] at *; omega))⟩
 refine OK.nil ?_
 refine X.condF (by kernel_rfl) ?_
 refine X.skip (X.region (OK.seg 2 (by kernel_rfl) (OK.nil ?_)))
 show X _ _ _ _ _ _ _ _ _
 refine X.at [.agg (cS s), I 40, .ptr 0 0, undefA, .bool false, undefA, .list ((s.ls 9).map I) false, .ptr 0 0, .list ((s.objs).map E) false, I ((((s.objs).map E).length : Nat) : Int), I 40, .bool false, .ptr 0 1, .agg (cL s.ls), I 10, .bool true, .list ((s.ls 9).map I) false, .list ((s.ls 9).map I) false, I ((((s.ls 9).map I).length : Nat) : Int), I 40, I 50, .bool false, I 10] [.box (cS s) false] (by kernel_rfl) (by kernel_rfl) ?_
 refine X.loop1 (by kernel_rfl) ?_
 refine X.seq (X.region (OK.seg 1 (by kernel_rfl) (OK.nil ?_)))
 refine X.seq (X.condT (by kernel_rfl) ?_)
 refine X.skip (X.seq (X.block (X.seq (X.region (OK.seg 2 (by kernel_rfl) (OK.nil ?_))))))
 refine X.seq (X.region (OK.seg 4 (by kernel_rfl) ?_))
 refine OK.dec (((((s.ls 10).map I).length : Nat) : Int) > 50) (by kernel_rfl) (by kernel_rfl) (fun h12 => ?_) (fun h12 => ?_)
 ·
  refine OK.nil ?_
  refine X.condT (by kernel_rfl) ?_
  refine X.seq (X.region (OK.seg 1 (by kernel_rfl) (OK.nil ?_)))
  refine X.ret ?_
  exact ⟨rfl, giv (r := .bool true) (by kernel_rfl) (bool_t (p := big s 40) (by simp only [big, List.length_map] at *; omega))⟩
 refine OK.nil ?_
 refine X.condF (by kernel_rfl) ?_
 refine X.skip (X.region (OK.seg 2 (by kernel_rfl) (OK.nil ?_)))
 show X _ _ _ _ _ _ _ _ _
 refine X.at [.agg (cS s), I 40, .ptr 0 0, undefA, .bool false, undefA, .list ((s.ls 10).map I) false, .ptr 0 0, .list ((s.objs).map E) false, I ((((s.objs).map E).length : Nat) : Int), I 40, .bool false, .ptr 0 1, .agg (cL s.ls), I 11, .bool true, .list ((s.ls 10).map I) false, .list ((s.ls 10).map I) false, I ((((s.ls 10).map I).length : Nat) : Int), I 40, I 50, .bool false, I 11] [.box (cS s) false] (by kernel_rfl) (by kernel_rfl) ?_
 refine X.loop1 (by kernel_rfl) ?_
 refine X.seq (X.region (OK.seg 1 (by kernel_rfl) (OK.nil ?_)))
 refine X.seq (X.condF (by kernel_rfl) ?_)
 refine X.exit ?_
 show X _ _ _ _ _ _ _ _ _
 refine X.seq (X.region (OK.seg 1 (by kernel_rfl) (OK.nil ?_)))
 refine X.ret ?_
 exact ⟨rfl, giv (r := .bool false) (by kernel_rfl) (bool_f (p := big s 40) (by simp only [big, List.length_map] at *; omega))⟩

end Go.Abs.S22
