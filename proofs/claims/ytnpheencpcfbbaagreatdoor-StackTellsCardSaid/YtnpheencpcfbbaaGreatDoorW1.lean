/-
  Walks: the bounds of a state, in the program and in the document. Each under its own conditions.
-/
import Derived.Test.YtnpheencpcfbbaaGreatDoorS
set_option linter.unusedSimpArgs false
set_option linter.unusedVariables false
namespace Go.Abs.Z
open Go Go.Abs Go.Proofs
theorem has_w : ∀ k (lo hi n : Int) σ, 60 ≤ k → readW (callW Tryz.prog (exec Tryz.prog cfg k)) 136 [.agg [I lo, I hi], I n] σ = some (.bool (decide (n ≥ lo ∧ n ≤ hi)), σ) := by
 intro k lo hi n σ hk
 obtain ⟨k, rfl⟩ : ∃ k', k = k' + 60 := ⟨k - 60, by omega⟩
 refine reader_of Tryz.func136 rfl (by simp only [AV.frees, AV.free, fr_I, fr_E, fr_cO, fr_cL, fr_cS, Bool.and_self]) ?_
 refine X.seq (X.region (OK.seg 2 (by kernel_rfl) (OK.nil ?_)))
 refine X.seq (X.region (OK.seg 3 (by kernel_rfl) ?_))
 refine OK.dec (n ≥ lo) (by kernel_rfl) (by kernel_rfl) (fun h1 => ?_) (fun h1 => ?_)
 rotate_left
 ·
  refine OK.seg 7 (by kernel_rfl) (OK.nil ?_)
  refine X.ret ?_
  exact ⟨rfl, giv (r := .bool false) (by kernel_rfl) (bool_f (p := n ≥ lo ∧ n ≤ hi) (by omega))⟩
 refine OK.seg 4 (by kernel_rfl) ?_
 refine OK.dec (n ≤ hi) (by kernel_rfl) (by kernel_rfl) (fun h2 => ?_) (fun h2 => ?_)
 ·
  refine OK.seg 2 (by kernel_rfl) (OK.nil ?_)
  refine X.ret ?_
  exact ⟨rfl, giv (r := .bool true) (by kernel_rfl) (bool_t (p := n ≥ lo ∧ n ≤ hi) (by omega))⟩
 refine OK.seg 2 (by kernel_rfl) (OK.nil ?_)
 refine X.ret ?_
 exact ⟨rfl, giv (r := .bool false) (by kernel_rfl) (bool_f (p := n ≥ lo ∧ n ≤ hi) (by omega))⟩
def bC (m : Int) : List AV := [I 0, I 119, I 0, I 1, I 0, I 1, I 0, I 10, I 0, I 1, I 0, I 1, I 0, I 1073741824, I 0, I 1073741824, I (-1073741824), I 1073741824, I (-1073741824), I 1073741824, I 0, I 255, I 0, I 1, I 0, I m, I 0, I 2, I 0, I 3, I 0, I m, I (-2), I m, I 0, I 3]
theorem objects_w : ∀ k (m : Int) σ, 60 ≤ k → readW (callW Tryz.prog (exec Tryz.prog cfg k)) 135 [I m] σ = some (.agg (bC m), σ) := by
  intro k m σ hk
  obtain ⟨k, rfl⟩ : ∃ k', k = k' + 60 := ⟨k - 60, by omega⟩
  kernel_rfl
def pC : List AV := [I (-1073741824), I 1073741824, I 0, I 1000, I 0, I 1000, I 0, I 1000, I 0, I 1000, I 0, I 1000, I 0, I 1000, I 0, I 1, I 0, I 1]
theorem players_w : ∀ k  σ, 60 ≤ k → readW (callW Tryz.prog (exec Tryz.prog cfg k)) 137 [] σ = some (.agg (pC), σ) := by
  intro k  σ hk
  obtain ⟨k, rfl⟩ : ∃ k', k = k' + 60 := ⟨k - 60, by omega⟩
  kernel_rfl
def gC : List AV := [I 0, I 1073741824, I 0, I 1, I 0, I 7, I 0, I 1, I 0, I 1, I 0, I 4096, I 0, I 3]
theorem game_w : ∀ k  σ, 60 ≤ k → readW (callW Tryz.prog (exec Tryz.prog cfg k)) 138 [] σ = some (.agg (gC), σ) := by
  intro k  σ hk
  obtain ⟨k, rfl⟩ : ∃ k', k = k' + 60 := ⟨k - 60, by omega⟩
  kernel_rfl
def big (s : St) (MM : Nat) : Prop := s.objs.length > MM ∨ (s.ls 0).length > MM + 10 ∨ (s.ls 1).length > MM + 10 ∨ (s.ls 2).length > MM + 10 ∨ (s.ls 3).length > MM + 10 ∨ (s.ls 4).length > MM + 10 ∨ (s.ls 5).length > MM + 10 ∨ (s.ls 6).length > MM + 10 ∨ (s.ls 7).length > MM + 10 ∨ (s.ls 8).length > MM + 10 ∨ (s.ls 9).length > MM + 10 ∨ (s.ls 10).length > MM + 10
instance (s : St) (m : Nat) : Decidable (big s m) := by unfold big; infer_instance
theorem Long_w : ∀ k (s : St) σ, 60 ≤ k → readW (callW Tryz.prog (exec Tryz.prog cfg k)) 28 [.agg (cS s), I 40] σ = some (.bool (decide (big s 40)), σ) := by
 intro k s σ hk
 obtain ⟨k, rfl⟩ : ∃ k', k = k' + 60 := ⟨k - 60, by omega⟩
 refine reader_of Tryz.func28 rfl (by simp only [AV.frees, AV.free, fr_I, fr_E, fr_cO, fr_cL, fr_cS, Bool.and_self]) ?_
 refine X.seq (X.region (OK.seg 2 (by kernel_rfl) (OK.nil ?_)))
 refine X.seq (X.seq (X.region (OK.seg 4 (by kernel_rfl) ?_)))
 refine OK.dec (((((s.objs).map E).length : Nat) : Int) > 40) (by kernel_rfl) (by kernel_rfl) (fun h1 => ?_) (fun h1 => ?_)
 ·
  refine OK.nil ?_
  refine X.condT (by kernel_rfl) ?_
  refine X.seq (X.region (OK.seg 1 (by kernel_rfl) (OK.nil ?_)))
  refine X.ret ?_
  exact ⟨rfl, giv (r := .bool true) (by kernel_rfl) (bool_t (p := big s 40) (by simp only [big, List.length_map] at *; omega))⟩
 refine OK.nil ?_
 refine X.condF (by kernel_rfl) ?_
 refine X.skip (X.seq (X.seq (X.region (OK.seg 3 (by kernel_rfl) (OK.nil ?_)))))
 refine X.block ?_
 refine X.at ([.agg (cS s), I 40, .ptr 0 0, undefA, .bool false, undefA, undefA, .ptr 0 0, .list ((s.objs).map E) false, I ((((s.objs).map E).length : Nat) : Int), I 40, .bool false, .ptr 0 1, .agg (cL s.ls), I 0] ++ List.replicate 8 undefA : List AV) [.box (cS s) false] (by kernel_rfl) (by kernel_rfl) ?_
 refine X.loop1 (by kernel_rfl) ?_
 refine X.seq (X.region (OK.seg 1 (by kernel_rfl) (OK.nil ?_)))
 refine X.seq (X.condT (by kernel_rfl) ?_)
 refine X.skip (X.seq (X.block (X.seq (X.region (OK.seg 2 (by kernel_rfl) (OK.nil ?_))))))
 refine X.seq (X.region (OK.seg 4 (by kernel_rfl) ?_))
 refine OK.dec (((((s.ls 0).map I).length : Nat) : Int) > 50) (by kernel_rfl) (by kernel_rfl) (fun h2 => ?_) (fun h2 => ?_)
 ·
  refine OK.nil ?_
  refine X.condT (by kernel_rfl) ?_
  refine X.seq (X.region (OK.seg 1 (by kernel_rfl) (OK.nil ?_)))
  refine X.ret ?_
  exact ⟨rfl, giv (r := .bool true) (by kernel_rfl) (bool_t (p := big s 40) (by simp only [big, List.length_map] at *; omega))⟩
 refine OK.nil ?_
 refine X.condF (by kernel_rfl) ?_
 refine X.skip (X.region (OK.seg 2 (by kernel_rfl) (OK.nil ?_)))
 show X _ _ _ _ _ _ _ _ _
 refine X.loop1 (by kernel_rfl) ?_
 refine X.seq (X.region (OK.seg 1 (by kernel_rfl) (OK.nil ?_)))
 refine X.seq (X.condT (by kernel_rfl) ?_)
 refine X.skip (X.seq (X.block (X.seq (X.region (OK.seg 2 (by kernel_rfl) (OK.nil ?_))))))
 refine X.seq (X.region (OK.seg 4 (by kernel_rfl) ?_))
 refine OK.dec (((((s.ls 1).map I).length : Nat) : Int) > 50) (by kernel_rfl) (by kernel_rfl) (fun h3 => ?_) (fun h3 => ?_)
 ·
  refine OK.nil ?_
  refine X.condT (by kernel_rfl) ?_
  refine X.seq (X.region (OK.seg 1 (by kernel_rfl) (OK.nil ?_)))
  refine X.ret ?_
  exact ⟨rfl, giv (r := .bool true) (by kernel_rfl) (bool_t (p := big s 40) (by simp only [big, List.length_map] at *; omega))⟩
 refine OK.nil ?_
 refine X.condF (by kernel_rfl) ?_
 refine X.skip (X.region (OK.seg 2 (by kernel_rfl) (OK.nil ?_)))
 show X _ _ _ _ _ _ _ _ _
 refine X.loop1 (by kernel_rfl) ?_
 refine X.seq (X.region (OK.seg 1 (by kernel_rfl) (OK.nil ?_)))
 refine X.seq (X.condT (by kernel_rfl) ?_)
 refine X.skip (X.seq (X.block (X.seq (X.region (OK.seg 2 (by kernel_rfl) (OK.nil ?_))))))
 refine X.seq (X.region (OK.seg 4 (by kernel_rfl) ?_))
 refine OK.dec (((((s.ls 2).map I).length : Nat) : Int) > 50) (by kernel_rfl) (by kernel_rfl) (fun h4 => ?_) (fun h4 => ?_)
 ·
  refine OK.nil ?_
  refine X.condT (by kernel_rfl) ?_
  refine X.seq (X.region (OK.seg 1 (by kernel_rfl) (OK.nil ?_)))
  refine X.ret ?_
  exact ⟨rfl, giv (r := .bool true) (by kernel_rfl) (bool_t (p := big s 40) (by simp only [big, List.length_map] at *; omega))⟩
 refine OK.nil ?_
 refine X.condF (by kernel_rfl) ?_
 refine X.skip (X.region (OK.seg 2 (by kernel_rfl) (OK.nil ?_)))
 show X _ _ _ _ _ _ _ _ _
 refine X.loop1 (by kernel_rfl) ?_
 refine X.seq (X.region (OK.seg 1 (by kernel_rfl) (OK.nil ?_)))
 refine X.seq (X.condT (by kernel_rfl) ?_)
 refine X.skip (X.seq (X.block (X.seq (X.region (OK.seg 2 (by kernel_rfl) (OK.nil ?_))))))
 refine X.seq (X.region (OK.seg 4 (by kernel_rfl) ?_))
 refine OK.dec (((((s.ls 3).map I).length : Nat) : Int) > 50) (by kernel_rfl) (by kernel_rfl) (fun h5 => ?_) (fun h5 => ?_)
 ·
  refine OK.nil ?_
  refine X.condT (by kernel_rfl) ?_
  refine X.seq (X.region (OK.seg 1 (by kernel_rfl) (OK.nil ?_)))
  refine X.ret ?_
  exact ⟨rfl, giv (r := .bool true) (by kernel_rfl) (bool_t (p := big s 40) (by simp only [big, List.length_map] at *; omega))⟩
 refine OK.nil ?_
 refine X.condF (by kernel_rfl) ?_
 refine X.skip (X.region (OK.seg 2 (by kernel_rfl) (OK.nil ?_)))
 show X _ _ _ _ _ _ _ _ _
 refine X.loop1 (by kernel_rfl) ?_
 refine X.seq (X.region (OK.seg 1 (by kernel_rfl) (OK.nil ?_)))
 refine X.seq (X.condT (by kernel_rfl) ?_)
 refine X.skip (X.seq (X.block (X.seq (X.region (OK.seg 2 (by kernel_rfl) (OK.nil ?_))))))
 refine X.seq (X.region (OK.seg 4 (by kernel_rfl) ?_))
 refine OK.dec (((((s.ls 4).map I).length : Nat) : Int) > 50) (by kernel_rfl) (by kernel_rfl) (fun h6 => ?_) (fun h6 => ?_)
 ·
  refine OK.nil ?_
  refine X.condT (by kernel_rfl) ?_
  refine X.seq (X.region (OK.seg 1 (by kernel_rfl) (OK.nil ?_)))
  refine X.ret ?_
  exact ⟨rfl, giv (r := .bool true) (by kernel_rfl) (bool_t (p := big s 40) (by simp only [big, List.length_map] at *; omega))⟩
 refine OK.nil ?_
 refine X.condF (by kernel_rfl) ?_
 refine X.skip (X.region (OK.seg 2 (by kernel_rfl) (OK.nil ?_)))
 show X _ _ _ _ _ _ _ _ _
 refine X.loop1 (by kernel_rfl) ?_
 refine X.seq (X.region (OK.seg 1 (by kernel_rfl) (OK.nil ?_)))
 refine X.seq (X.condT (by kernel_rfl) ?_)
 refine X.skip (X.seq (X.block (X.seq (X.region (OK.seg 2 (by kernel_rfl) (OK.nil ?_))))))
 refine X.seq (X.region (OK.seg 4 (by kernel_rfl) ?_))
 refine OK.dec (((((s.ls 5).map I).length : Nat) : Int) > 50) (by kernel_rfl) (by kernel_rfl) (fun h7 => ?_) (fun h7 => ?_)
 ·
  refine OK.nil ?_
  refine X.condT (by kernel_rfl) ?_
  refine X.seq (X.region (OK.seg 1 (by kernel_rfl) (OK.nil ?_)))
  refine X.ret ?_
  exact ⟨rfl, giv (r := .bool true) (by kernel_rfl) (bool_t (p := big s 40) (by simp only [big, List.length_map] at *; omega))⟩
 refine OK.nil ?_
 refine X.condF (by kernel_rfl) ?_
 refine X.skip (X.region (OK.seg 2 (by kernel_rfl) (OK.nil ?_)))
 show X _ _ _ _ _ _ _ _ _
 refine X.loop1 (by kernel_rfl) ?_
 refine X.seq (X.region (OK.seg 1 (by kernel_rfl) (OK.nil ?_)))
 refine X.seq (X.condT (by kernel_rfl) ?_)
 refine X.skip (X.seq (X.block (X.seq (X.region (OK.seg 2 (by kernel_rfl) (OK.nil ?_))))))
 refine X.seq (X.region (OK.seg 4 (by kernel_rfl) ?_))
 refine OK.dec (((((s.ls 6).map I).length : Nat) : Int) > 50) (by kernel_rfl) (by kernel_rfl) (fun h8 => ?_) (fun h8 => ?_)
 ·
  refine OK.nil ?_
  refine X.condT (by kernel_rfl) ?_
  refine X.seq (X.region (OK.seg 1 (by kernel_rfl) (OK.nil ?_)))
  refine X.ret ?_
  exact ⟨rfl, giv (r := .bool true) (by kernel_rfl) (bool_t (p := big s 40) (by simp only [big, List.length_map] at *; omega))⟩
 refine OK.nil ?_
 refine X.condF (by kernel_rfl) ?_
 refine X.skip (X.region (OK.seg 2 (by kernel_rfl) (OK.nil ?_)))
 show X _ _ _ _ _ _ _ _ _
 refine X.loop1 (by kernel_rfl) ?_
 refine X.seq (X.region (OK.seg 1 (by kernel_rfl) (OK.nil ?_)))
 refine X.seq (X.condT (by kernel_rfl) ?_)
 refine X.skip (X.seq (X.block (X.seq (X.region (OK.seg 2 (by kernel_rfl) (OK.nil ?_))))))
 refine X.seq (X.region (OK.seg 4 (by kernel_rfl) ?_))
 refine OK.dec (((((s.ls 7).map I).length : Nat) : Int) > 50) (by kernel_rfl) (by kernel_rfl) (fun h9 => ?_) (fun h9 => ?_)
 ·
  refine OK.nil ?_
  refine X.condT (by kernel_rfl) ?_
  refine X.seq (X.region (OK.seg 1 (by kernel_rfl) (OK.nil ?_)))
  refine X.ret ?_
  exact ⟨rfl, giv (r := .bool true) (by kernel_rfl) (bool_t (p := big s 40) (by simp only [big, List.length_map] at *; omega))⟩
 refine OK.nil ?_
 refine X.condF (by kernel_rfl) ?_
 refine X.skip (X.region (OK.seg 2 (by kernel_rfl) (OK.nil ?_)))
 show X _ _ _ _ _ _ _ _ _
 refine X.loop1 (by kernel_rfl) ?_
 refine X.seq (X.region (OK.seg 1 (by kernel_rfl) (OK.nil ?_)))
 refine X.seq (X.condT (by kernel_rfl) ?_)
 refine X.skip (X.seq (X.block (X.seq (X.region (OK.seg 2 (by kernel_rfl) (OK.nil ?_))))))
 refine X.seq (X.region (OK.seg 4 (by kernel_rfl) ?_))
 refine OK.dec (((((s.ls 8).map I).length : Nat) : Int) > 50) (by kernel_rfl) (by kernel_rfl) (fun h10 => ?_) (fun h10 => ?_)
 ·
  refine OK.nil ?_
  refine X.condT (by kernel_rfl) ?_
  refine X.seq (X.region (OK.seg 1 (by kernel_rfl) (OK.nil ?_)))
  refine X.ret ?_
  exact ⟨rfl, giv (r := .bool true) (by kernel_rfl) (bool_t (p := big s 40) (by simp only [big, List.length_map] at *; omega))⟩
 refine OK.nil ?_
 refine X.condF (by kernel_rfl) ?_
 refine X.skip (X.region (OK.seg 2 (by kernel_rfl) (OK.nil ?_)))
 show X _ _ _ _ _ _ _ _ _
 refine X.loop1 (by kernel_rfl) ?_
 refine X.seq (X.region (OK.seg 1 (by kernel_rfl) (OK.nil ?_)))
 refine X.seq (X.condT (by kernel_rfl) ?_)
 refine X.skip (X.seq (X.block (X.seq (X.region (OK.seg 2 (by kernel_rfl) (OK.nil ?_))))))
 refine X.seq (X.region (OK.seg 4 (by kernel_rfl) ?_))
 refine OK.dec (((((s.ls 9).map I).length : Nat) : Int) > 50) (by kernel_rfl) (by kernel_rfl) (fun h11 => ?_) (fun h11 => ?_)
 ·
  refine OK.nil ?_
  refine X.condT (by kernel_rfl) ?_
  refine X.seq (X.region (OK.seg 1 (by kernel_rfl) (OK.nil ?_)))
  refine X.ret ?_
  exact ⟨rfl, giv (r := .bool true) (by kernel_rfl) (bool_t (p := big s 40) (by simp only [big, List.length_map] at *; omega))⟩
 refine OK.nil ?_
 refine X.condF (by kernel_rfl) ?_
 refine X.skip (X.region (OK.seg 2 (by kernel_rfl) (OK.nil ?_)))
 show X _ _ _ _ _ _ _ _ _
 refine X.loop1 (by kernel_rfl) ?_
 refine X.seq (X.region (OK.seg 1 (by kernel_rfl) (OK.nil ?_)))
 refine X.seq (X.condT (by kernel_rfl) ?_)
 refine X.skip (X.seq (X.block (X.seq (X.region (OK.seg 2 (by kernel_rfl) (OK.nil ?_))))))
 refine X.seq (X.region (OK.seg 4 (by kernel_rfl) ?_))
 refine OK.dec (((((s.ls 10).map I).length : Nat) : Int) > 50) (by kernel_rfl) (by kernel_rfl) (fun h12 => ?_) (fun h12 => ?_)
 ·
  refine OK.nil ?_
  refine X.condT (by kernel_rfl) ?_
  refine X.seq (X.region (OK.seg 1 (by kernel_rfl) (OK.nil ?_)))
  refine X.ret ?_
  exact ⟨rfl, giv (r := .bool true) (by kernel_rfl) (bool_t (p := big s 40) (by simp only [big, List.length_map] at *; omega))⟩
 refine OK.nil ?_
 refine X.condF (by kernel_rfl) ?_
 refine X.skip (X.region (OK.seg 2 (by kernel_rfl) (OK.nil ?_)))
 show X _ _ _ _ _ _ _ _ _
 refine X.loop1 (by kernel_rfl) ?_
 refine X.seq (X.region (OK.seg 1 (by kernel_rfl) (OK.nil ?_)))
 refine X.seq (X.condF (by kernel_rfl) ?_)
 refine X.exit ?_
 show X _ _ _ _ _ _ _ _ _
 refine X.seq (X.region (OK.seg 1 (by kernel_rfl) (OK.nil ?_)))
 refine X.ret ?_
 exact ⟨rfl, giv (r := .bool false) (by kernel_rfl) (bool_f (p := big s 40) (by simp only [big, List.length_map] at *; omega))⟩
end Go.Abs.Z
namespace Go.Abs.Z
open Go Go.Abs Go.Proofs
def okO (o : Ob) (m : Int) : Prop := (0 ≤ o 0 ∧ o 0 ≤ 119) ∧ (0 ≤ o 1 ∧ o 1 ≤ 1) ∧ (0 ≤ o 2 ∧ o 2 ≤ 1) ∧ (0 ≤ o 3 ∧ o 3 ≤ 10) ∧ (0 ≤ o 4 ∧ o 4 ≤ 1) ∧ (0 ≤ o 5 ∧ o 5 ≤ 1) ∧ (0 ≤ o 6 ∧ o 6 ≤ 1073741824) ∧ (0 ≤ o 7 ∧ o 7 ≤ 1073741824) ∧ (-1073741824 ≤ o 8 ∧ o 8 ≤ 1073741824) ∧ (-1073741824 ≤ o 9 ∧ o 9 ≤ 1073741824) ∧ (0 ≤ o 10 ∧ o 10 ≤ 255) ∧ (0 ≤ o 11 ∧ o 11 ≤ 1) ∧ (0 ≤ o 12 ∧ o 12 ≤ m) ∧ (0 ≤ o 13 ∧ o 13 ≤ 2) ∧ (0 ≤ o 14 ∧ o 14 ≤ 3) ∧ (0 ≤ o 15 ∧ o 15 ≤ m) ∧ (-2 ≤ o 16 ∧ o 16 ≤ m) ∧ (0 ≤ o 17 ∧ o 17 ≤ 3)
instance (o : Ob) (m : Int) : Decidable (okO o m) := by unfold okO; infer_instance
def okP (s : St) : Prop := (-1073741824 ≤ s.pl 0 ∧ s.pl 0 ≤ 1073741824) ∧ (0 ≤ s.pl 1 ∧ s.pl 1 ≤ 1000) ∧ (0 ≤ s.pl 2 ∧ s.pl 2 ≤ 1000) ∧ (0 ≤ s.pl 3 ∧ s.pl 3 ≤ 1000) ∧ (0 ≤ s.pl 4 ∧ s.pl 4 ≤ 1000) ∧ (0 ≤ s.pl 5 ∧ s.pl 5 ≤ 1000) ∧ (0 ≤ s.pl 6 ∧ s.pl 6 ≤ 1000) ∧ (0 ≤ s.pl 7 ∧ s.pl 7 ≤ 1) ∧ (0 ≤ s.pl 8 ∧ s.pl 8 ≤ 1) ∧ (-1073741824 ≤ s.pl 9 ∧ s.pl 9 ≤ 1073741824) ∧ (0 ≤ s.pl 10 ∧ s.pl 10 ≤ 1000) ∧ (0 ≤ s.pl 11 ∧ s.pl 11 ≤ 1000) ∧ (0 ≤ s.pl 12 ∧ s.pl 12 ≤ 1000) ∧ (0 ≤ s.pl 13 ∧ s.pl 13 ≤ 1000) ∧ (0 ≤ s.pl 14 ∧ s.pl 14 ≤ 1000) ∧ (0 ≤ s.pl 15 ∧ s.pl 15 ≤ 1000) ∧ (0 ≤ s.pl 16 ∧ s.pl 16 ≤ 1) ∧ (0 ≤ s.pl 17 ∧ s.pl 17 ≤ 1)
def okG (s : St) : Prop := (0 ≤ s.gm 0 ∧ s.gm 0 ≤ 1073741824) ∧ (0 ≤ s.gm 1 ∧ s.gm 1 ≤ 1) ∧ (0 ≤ s.gm 2 ∧ s.gm 2 ≤ 7) ∧ (0 ≤ s.gm 3 ∧ s.gm 3 ≤ 1) ∧ (0 ≤ s.gm 4 ∧ s.gm 4 ≤ 1) ∧ (0 ≤ s.gm 5 ∧ s.gm 5 ≤ 4096) ∧ (0 ≤ s.gm 6 ∧ s.gm 6 ≤ 3)
def okR (s : St) : Prop := (∀ j < s.objs.length, okO (s.objs.getD j o0) s.objs.length) ∧ okP s ∧ okG s
noncomputable instance (s : St) : Decidable (okR s) := Classical.propDecidable _
set_option maxHeartbeats 4000000 in
theorem ranges_w : ∀ k (s : St) σ, wf s → 600 + s.objs.length ≤ k → readW (callW Tryz.prog (exec Tryz.prog cfg k)) 78 [.agg (cS s)] σ = some (.bool (decide (okR s)), σ) := by
 intro k s σ hyp0 hk
 obtain ⟨k, rfl⟩ : ∃ k', k = k' + 60 := ⟨k - 60, by omega⟩
 obtain ⟨hw1, hw2⟩ := hyp0
 refine reader_of Tryz.func78 rfl (by simp only [AV.frees, AV.free, fr_I, fr_E, fr_cO, fr_cL, fr_cS, Bool.and_self]) ?_
 refine X.seq (X.region (OK.seg 2 (by kernel_rfl) (OK.nil ?_)))
 refine X.seq (X.region (OK.seg 3 (by kernel_rfl) ?_))
 refine OK.rd [I ((((s.objs).map E).length : Nat) : Int)] [I ((((s.objs).map E).length : Nat) : Int)] (.agg (bC ((((s.objs).map E).length : Nat) : Int))) rfl (by kernel_rfl) rfl (by kernel_rfl) (by kernel_rfl) (by kernel_rfl) (by kernel_rfl) (by kernel_rfl) (objects_w _ _ _ (by omega)) ?_
 refine OK.seg 2 (by kernel_rfl) (OK.nil ?_)
 refine X.seq (X.seq (X.region (OK.seg 4 (by kernel_rfl) (OK.nil ?_))))
 refine X.block ?_
 refine X.rounds3 (K := 400) [2, 5, 6, 7, 22, 23, 24, 25, 26, 27, 28, 29, 30, 31, 32, 33, 34, 35, 36, 37] (by kernel_rfl) rfl (fun m fr σ => ∃ i : Nat, m = s.objs.length - i ∧ clearA' [2, 5, 6, 7, 22, 23, 24, 25, 26, 27, 28, 29, 30, 31, 32, 33, 34, 35, 36, 37] fr = ([.agg (cS s), .ptr 0 0, .opq, .ptr 1 0, undefA, .opq, .opq, .opq] ++ List.replicate 6 undefA ++ [.ptr 0 0, .list ((s.objs).map E) false, I ((((s.objs).map E).length : Nat) : Int), .agg (bC ((((s.objs).map E).length : Nat) : Int)), .ptr 0 0, .list ((s.objs).map E) false, I ((((s.objs).map E).length : Nat) : Int), I ((i : Nat) : Int)] ++ List.replicate 16 .opq ++ List.replicate 31 undefA : List AV) ∧ σ = [.box (cS s) false, .box (bC ((((s.objs).map E).length : Nat) : Int)) false] ∧ (i ≤ s.objs.length ∧ ∀ j < i, okO (s.objs.getD j o0) s.objs.length)) ?_ (m := s.objs.length) ⟨0, by first | rfl | omega, by kernel_rfl, by kernel_rfl, by exact ⟨Nat.zero_le _, fun j h => absurd h (Nat.not_lt_zero _)⟩⟩ ?_
 rotate_left
 · omega
 rintro m4 fr σ ⟨i, h2, h3, rfl, h1⟩ k h4
 rw [h3]; clear h3
 obtain ⟨k, rfl⟩ : ∃ k', k = k' + 60 := ⟨k - 60, by omega⟩
 refine X.seq (X.region ?_)
 refine OK.dec (((i : Nat) : Int) < ((((s.objs).map E).length : Nat) : Int)) (by kernel_rfl) (by kernel_rfl) (fun h5 => ?_) (fun h5 => ?_)
 ·
  refine OK.nil ?_
  refine X.seq (X.condT (by kernel_rfl) ?_)
  refine X.skip (X.seq (X.block (X.seq (X.region ?_))))
  refine OK.val (.ro (cO ((s.objs).getD i o0)) 0) (by kernel_rfl) (fun _ => idx_map (sz := 18) (g := E) (d := o0) (xs := s.objs) (ex := false) (k := .i64) (n := ((i : Nat) : Int)) rfl Tryz.underlying22 (by kernel_rfl) (by kernel_rfl) (by kernel_rfl) (by kernel_rfl) (by first | omega | (simp only [List.length_map] at *; omega)) (by first | omega | (simp only [List.length_map] at *; omega))) ?_
  refine OK.seg 3 (by kernel_rfl) (OK.nil ?_)
  refine X.seq (X.region (OK.seg 2 (by kernel_rfl) (OK.nil ?_)))
  refine X.block ?_
  refine X.at ([.agg (cS s), .ptr 0 0, .opq, .ptr 1 0, undefA, .ptr 2 0, .opq, .opq] ++ List.replicate 6 undefA ++ [.ptr 0 0, .list ((s.objs).map E) false, I ((((s.objs).map E).length : Nat) : Int), .agg (bC ((((s.objs).map E).length : Nat) : Int)), .ptr 0 0, .list ((s.objs).map E) false, I ((((s.objs).map E).length : Nat) : Int), I ((i : Nat) : Int), .bool true, .ro (cO ((s.objs).getD i o0)) 0, .agg (cO ((s.objs).getD i o0)), .agg (cO ((s.objs).getD i o0)), I 0] ++ List.replicate 11 .opq ++ List.replicate 31 undefA : List AV) [.box (cS s) false, .box (bC ((((s.objs).map E).length : Nat) : Int)) false, .box (cO ((s.objs).getD i o0)) false] (by kernel_rfl) (by kernel_rfl) ?_
  refine X.loop1 (by kernel_rfl) ?_
  refine X.seq (X.region (OK.seg 1 (by kernel_rfl) (OK.nil ?_)))
  refine X.seq (X.condT (by kernel_rfl) ?_)
  refine X.skip (X.seq (X.block (X.seq (X.region (OK.seg 4 (by kernel_rfl) (OK.nil ?_))))))
  refine X.seq (X.region (OK.seg 4 (by kernel_rfl) ?_))
  refine OK.rdP [.agg [I 0, I 119], I (((s.objs).getD i o0) 0)] [.agg [I 0, I 119], I (((s.objs).getD i o0) 0)] ((((s.objs).getD i o0) 0) ≥ 0 ∧ (((s.objs).getD i o0) 0) ≤ 119) rfl (by kernel_rfl) rfl (by kernel_rfl) (by kernel_rfl) (by kernel_rfl) (by kernel_rfl) (by kernel_rfl) (has_w _ _ _ _ _ (by omega)) (fun h6 => ?_) (fun h6 => ?_)
  rotate_left
  ·
   refine OK.seg 1 (by kernel_rfl) (OK.nil ?_)
   refine X.condT (by kernel_rfl) ?_
   refine X.seq (X.region (OK.seg 1 (by kernel_rfl) (OK.nil ?_)))
   refine X.ret ?_
   exact ⟨rfl, giv (r := .bool false) (by kernel_rfl) (bool_f (p := okR s) (by intro hh; first | (have h2 := hh.2.1; simp only [okP] at h2; omega) | (have h2 := hh.2.2; simp only [okG] at h2; omega) | (have h2 := hh.1 i (by simp only [List.length_map] at *; omega); simp only [okO, List.length_map] at *; omega)))⟩
  refine OK.seg 1 (by kernel_rfl) (OK.nil ?_)
  refine X.condF (by kernel_rfl) ?_
  refine X.skip (X.region (OK.seg 2 (by kernel_rfl) (OK.nil ?_)))
  show X _ _ _ _ _ _ _ _ _
  refine X.loop1 (by kernel_rfl) ?_
  refine X.seq (X.region (OK.seg 1 (by kernel_rfl) (OK.nil ?_)))
  refine X.seq (X.condT (by kernel_rfl) ?_)
  refine X.skip (X.seq (X.block (X.seq (X.region (OK.seg 4 (by kernel_rfl) (OK.nil ?_))))))
  refine X.seq (X.region (OK.seg 4 (by kernel_rfl) ?_))
  refine OK.rdP [.agg [I 0, I 1], I (((s.objs).getD i o0) 1)] [.agg [I 0, I 1], I (((s.objs).getD i o0) 1)] ((((s.objs).getD i o0) 1) ≥ 0 ∧ (((s.objs).getD i o0) 1) ≤ 1) rfl (by kernel_rfl) rfl (by kernel_rfl) (by kernel_rfl) (by kernel_rfl) (by kernel_rfl) (by kernel_rfl) (has_w _ _ _ _ _ (by omega)) (fun h7 => ?_) (fun h7 => ?_)
  rotate_left
  ·
   refine OK.seg 1 (by kernel_rfl) (OK.nil ?_)
   refine X.condT (by kernel_rfl) ?_
   refine X.seq (X.region (OK.seg 1 (by kernel_rfl) (OK.nil ?_)))
   refine X.ret ?_
   exact ⟨rfl, giv (r := .bool false) (by kernel_rfl) (bool_f (p := okR s) (by intro hh; first | (have h2 := hh.2.1; simp only [okP] at h2; omega) | (have h2 := hh.2.2; simp only [okG] at h2; omega) | (have h2 := hh.1 i (by simp only [List.length_map] at *; omega); simp only [okO, List.length_map] at *; omega)))⟩
  refine OK.seg 1 (by kernel_rfl) (OK.nil ?_)
  refine X.condF (by kernel_rfl) ?_
  refine X.skip (X.region (OK.seg 2 (by kernel_rfl) (OK.nil ?_)))
  show X _ _ _ _ _ _ _ _ _
  refine X.loop1 (by kernel_rfl) ?_
  refine X.seq (X.region (OK.seg 1 (by kernel_rfl) (OK.nil ?_)))
  refine X.seq (X.condT (by kernel_rfl) ?_)
  refine X.skip (X.seq (X.block (X.seq (X.region (OK.seg 4 (by kernel_rfl) (OK.nil ?_))))))
  refine X.seq (X.region (OK.seg 4 (by kernel_rfl) ?_))
  refine OK.rdP [.agg [I 0, I 1], I (((s.objs).getD i o0) 2)] [.agg [I 0, I 1], I (((s.objs).getD i o0) 2)] ((((s.objs).getD i o0) 2) ≥ 0 ∧ (((s.objs).getD i o0) 2) ≤ 1) rfl (by kernel_rfl) rfl (by kernel_rfl) (by kernel_rfl) (by kernel_rfl) (by kernel_rfl) (by kernel_rfl) (has_w _ _ _ _ _ (by omega)) (fun h8 => ?_) (fun h8 => ?_)
  rotate_left
  ·
   refine OK.seg 1 (by kernel_rfl) (OK.nil ?_)
   refine X.condT (by kernel_rfl) ?_
   refine X.seq (X.region (OK.seg 1 (by kernel_rfl) (OK.nil ?_)))
   refine X.ret ?_
   exact ⟨rfl, giv (r := .bool false) (by kernel_rfl) (bool_f (p := okR s) (by intro hh; first | (have h2 := hh.2.1; simp only [okP] at h2; omega) | (have h2 := hh.2.2; simp only [okG] at h2; omega) | (have h2 := hh.1 i (by simp only [List.length_map] at *; omega); simp only [okO, List.length_map] at *; omega)))⟩
  refine OK.seg 1 (by kernel_rfl) (OK.nil ?_)
  refine X.condF (by kernel_rfl) ?_
  refine X.skip (X.region (OK.seg 2 (by kernel_rfl) (OK.nil ?_)))
  show X _ _ _ _ _ _ _ _ _
  refine X.loop1 (by kernel_rfl) ?_
  refine X.seq (X.region (OK.seg 1 (by kernel_rfl) (OK.nil ?_)))
  refine X.seq (X.condT (by kernel_rfl) ?_)
  refine X.skip (X.seq (X.block (X.seq (X.region (OK.seg 4 (by kernel_rfl) (OK.nil ?_))))))
  refine X.seq (X.region (OK.seg 4 (by kernel_rfl) ?_))
  refine OK.rdP [.agg [I 0, I 10], I (((s.objs).getD i o0) 3)] [.agg [I 0, I 10], I (((s.objs).getD i o0) 3)] ((((s.objs).getD i o0) 3) ≥ 0 ∧ (((s.objs).getD i o0) 3) ≤ 10) rfl (by kernel_rfl) rfl (by kernel_rfl) (by kernel_rfl) (by kernel_rfl) (by kernel_rfl) (by kernel_rfl) (has_w _ _ _ _ _ (by omega)) (fun h9 => ?_) (fun h9 => ?_)
  rotate_left
  ·
   refine OK.seg 1 (by kernel_rfl) (OK.nil ?_)
   refine X.condT (by kernel_rfl) ?_
   refine X.seq (X.region (OK.seg 1 (by kernel_rfl) (OK.nil ?_)))
   refine X.ret ?_
   exact ⟨rfl, giv (r := .bool false) (by kernel_rfl) (bool_f (p := okR s) (by intro hh; first | (have h2 := hh.2.1; simp only [okP] at h2; omega) | (have h2 := hh.2.2; simp only [okG] at h2; omega) | (have h2 := hh.1 i (by simp only [List.length_map] at *; omega); simp only [okO, List.length_map] at *; omega)))⟩
  refine OK.seg 1 (by kernel_rfl) (OK.nil ?_)
  refine X.condF (by kernel_rfl) ?_
  refine X.skip (X.region (OK.seg 2 (by kernel_rfl) (OK.nil ?_)))
  show X _ _ _ _ _ _ _ _ _
  refine X.loop1 (by kernel_rfl) ?_
  refine X.seq (X.region (OK.seg 1 (by kernel_rfl) (OK.nil ?_)))
  refine X.seq (X.condT (by kernel_rfl) ?_)
  refine X.skip (X.seq (X.block (X.seq (X.region (OK.seg 4 (by kernel_rfl) (OK.nil ?_))))))
  refine X.seq (X.region (OK.seg 4 (by kernel_rfl) ?_))
  refine OK.rdP [.agg [I 0, I 1], I (((s.objs).getD i o0) 4)] [.agg [I 0, I 1], I (((s.objs).getD i o0) 4)] ((((s.objs).getD i o0) 4) ≥ 0 ∧ (((s.objs).getD i o0) 4) ≤ 1) rfl (by kernel_rfl) rfl (by kernel_rfl) (by kernel_rfl) (by kernel_rfl) (by kernel_rfl) (by kernel_rfl) (has_w _ _ _ _ _ (by omega)) (fun h10 => ?_) (fun h10 => ?_)
  rotate_left
  ·
   refine OK.seg 1 (by kernel_rfl) (OK.nil ?_)
   refine X.condT (by kernel_rfl) ?_
   refine X.seq (X.region (OK.seg 1 (by kernel_rfl) (OK.nil ?_)))
   refine X.ret ?_
   exact ⟨rfl, giv (r := .bool false) (by kernel_rfl) (bool_f (p := okR s) (by intro hh; first | (have h2 := hh.2.1; simp only [okP] at h2; omega) | (have h2 := hh.2.2; simp only [okG] at h2; omega) | (have h2 := hh.1 i (by simp only [List.length_map] at *; omega); simp only [okO, List.length_map] at *; omega)))⟩
  refine OK.seg 1 (by kernel_rfl) (OK.nil ?_)
  refine X.condF (by kernel_rfl) ?_
  refine X.skip (X.region (OK.seg 2 (by kernel_rfl) (OK.nil ?_)))
  show X _ _ _ _ _ _ _ _ _
  refine X.loop1 (by kernel_rfl) ?_
  refine X.seq (X.region (OK.seg 1 (by kernel_rfl) (OK.nil ?_)))
  refine X.seq (X.condT (by kernel_rfl) ?_)
  refine X.skip (X.seq (X.block (X.seq (X.region (OK.seg 4 (by kernel_rfl) (OK.nil ?_))))))
  refine X.seq (X.region (OK.seg 4 (by kernel_rfl) ?_))
  refine OK.rdP [.agg [I 0, I 1], I (((s.objs).getD i o0) 5)] [.agg [I 0, I 1], I (((s.objs).getD i o0) 5)] ((((s.objs).getD i o0) 5) ≥ 0 ∧ (((s.objs).getD i o0) 5) ≤ 1) rfl (by kernel_rfl) rfl (by kernel_rfl) (by kernel_rfl) (by kernel_rfl) (by kernel_rfl) (by kernel_rfl) (has_w _ _ _ _ _ (by omega)) (fun h11 => ?_) (fun h11 => ?_)
  rotate_left
  ·
   refine OK.seg 1 (by kernel_rfl) (OK.nil ?_)
   refine X.condT (by kernel_rfl) ?_
   refine X.seq (X.region (OK.seg 1 (by kernel_rfl) (OK.nil ?_)))
   refine X.ret ?_
   exact ⟨rfl, giv (r := .bool false) (by kernel_rfl) (bool_f (p := okR s) (by intro hh; first | (have h2 := hh.2.1; simp only [okP] at h2; omega) | (have h2 := hh.2.2; simp only [okG] at h2; omega) | (have h2 := hh.1 i (by simp only [List.length_map] at *; omega); simp only [okO, List.length_map] at *; omega)))⟩
  refine OK.seg 1 (by kernel_rfl) (OK.nil ?_)
  refine X.condF (by kernel_rfl) ?_
  refine X.skip (X.region (OK.seg 2 (by kernel_rfl) (OK.nil ?_)))
  show X _ _ _ _ _ _ _ _ _
  refine X.loop1 (by kernel_rfl) ?_
  refine X.seq (X.region (OK.seg 1 (by kernel_rfl) (OK.nil ?_)))
  refine X.seq (X.condT (by kernel_rfl) ?_)
  refine X.skip (X.seq (X.block (X.seq (X.region (OK.seg 4 (by kernel_rfl) (OK.nil ?_))))))
  refine X.seq (X.region (OK.seg 4 (by kernel_rfl) ?_))
  refine OK.rdP [.agg [I 0, I 1073741824], I (((s.objs).getD i o0) 6)] [.agg [I 0, I 1073741824], I (((s.objs).getD i o0) 6)] ((((s.objs).getD i o0) 6) ≥ 0 ∧ (((s.objs).getD i o0) 6) ≤ 1073741824) rfl (by kernel_rfl) rfl (by kernel_rfl) (by kernel_rfl) (by kernel_rfl) (by kernel_rfl) (by kernel_rfl) (has_w _ _ _ _ _ (by omega)) (fun h12 => ?_) (fun h12 => ?_)
  rotate_left
  ·
   refine OK.seg 1 (by kernel_rfl) (OK.nil ?_)
   refine X.condT (by kernel_rfl) ?_
   refine X.seq (X.region (OK.seg 1 (by kernel_rfl) (OK.nil ?_)))
   refine X.ret ?_
   exact ⟨rfl, giv (r := .bool false) (by kernel_rfl) (bool_f (p := okR s) (by intro hh; first | (have h2 := hh.2.1; simp only [okP] at h2; omega) | (have h2 := hh.2.2; simp only [okG] at h2; omega) | (have h2 := hh.1 i (by simp only [List.length_map] at *; omega); simp only [okO, List.length_map] at *; omega)))⟩
  refine OK.seg 1 (by kernel_rfl) (OK.nil ?_)
  refine X.condF (by kernel_rfl) ?_
  refine X.skip (X.region (OK.seg 2 (by kernel_rfl) (OK.nil ?_)))
  show X _ _ _ _ _ _ _ _ _
  refine X.loop1 (by kernel_rfl) ?_
  refine X.seq (X.region (OK.seg 1 (by kernel_rfl) (OK.nil ?_)))
  refine X.seq (X.condT (by kernel_rfl) ?_)
  refine X.skip (X.seq (X.block (X.seq (X.region (OK.seg 4 (by kernel_rfl) (OK.nil ?_))))))
  refine X.seq (X.region (OK.seg 4 (by kernel_rfl) ?_))
  refine OK.rdP [.agg [I 0, I 1073741824], I (((s.objs).getD i o0) 7)] [.agg [I 0, I 1073741824], I (((s.objs).getD i o0) 7)] ((((s.objs).getD i o0) 7) ≥ 0 ∧ (((s.objs).getD i o0) 7) ≤ 1073741824) rfl (by kernel_rfl) rfl (by kernel_rfl) (by kernel_rfl) (by kernel_rfl) (by kernel_rfl) (by kernel_rfl) (has_w _ _ _ _ _ (by omega)) (fun h13 => ?_) (fun h13 => ?_)
  rotate_left
  ·
   refine OK.seg 1 (by kernel_rfl) (OK.nil ?_)
   refine X.condT (by kernel_rfl) ?_
   refine X.seq (X.region (OK.seg 1 (by kernel_rfl) (OK.nil ?_)))
   refine X.ret ?_
   exact ⟨rfl, giv (r := .bool false) (by kernel_rfl) (bool_f (p := okR s) (by intro hh; first | (have h2 := hh.2.1; simp only [okP] at h2; omega) | (have h2 := hh.2.2; simp only [okG] at h2; omega) | (have h2 := hh.1 i (by simp only [List.length_map] at *; omega); simp only [okO, List.length_map] at *; omega)))⟩
  refine OK.seg 1 (by kernel_rfl) (OK.nil ?_)
  refine X.condF (by kernel_rfl) ?_
  refine X.skip (X.region (OK.seg 2 (by kernel_rfl) (OK.nil ?_)))
  show X _ _ _ _ _ _ _ _ _
  refine X.loop1 (by kernel_rfl) ?_
  refine X.seq (X.region (OK.seg 1 (by kernel_rfl) (OK.nil ?_)))
  refine X.seq (X.condT (by kernel_rfl) ?_)
  refine X.skip (X.seq (X.block (X.seq (X.region (OK.seg 4 (by kernel_rfl) (OK.nil ?_))))))
  refine X.seq (X.region (OK.seg 4 (by kernel_rfl) ?_))
  refine OK.rdP [.agg [I (-1073741824), I 1073741824], I (((s.objs).getD i o0) 8)] [.agg [I (-1073741824), I 1073741824], I (((s.objs).getD i o0) 8)] ((((s.objs).getD i o0) 8) ≥ (-1073741824) ∧ (((s.objs).getD i o0) 8) ≤ 1073741824) rfl (by kernel_rfl) rfl (by kernel_rfl) (by kernel_rfl) (by kernel_rfl) (by kernel_rfl) (by kernel_rfl) (has_w _ _ _ _ _ (by omega)) (fun h14 => ?_) (fun h14 => ?_)
  rotate_left
  ·
   refine OK.seg 1 (by kernel_rfl) (OK.nil ?_)
   refine X.condT (by kernel_rfl) ?_
   refine X.seq (X.region (OK.seg 1 (by kernel_rfl) (OK.nil ?_)))
   refine X.ret ?_
   exact ⟨rfl, giv (r := .bool false) (by kernel_rfl) (bool_f (p := okR s) (by intro hh; first | (have h2 := hh.2.1; simp only [okP] at h2; omega) | (have h2 := hh.2.2; simp only [okG] at h2; omega) | (have h2 := hh.1 i (by simp only [List.length_map] at *; omega); simp only [okO, List.length_map] at *; omega)))⟩
  refine OK.seg 1 (by kernel_rfl) (OK.nil ?_)
  refine X.condF (by kernel_rfl) ?_
  refine X.skip (X.region (OK.seg 2 (by kernel_rfl) (OK.nil ?_)))
  show X _ _ _ _ _ _ _ _ _
  refine X.loop1 (by kernel_rfl) ?_
  refine X.seq (X.region (OK.seg 1 (by kernel_rfl) (OK.nil ?_)))
  refine X.seq (X.condT (by kernel_rfl) ?_)
  refine X.skip (X.seq (X.block (X.seq (X.region (OK.seg 4 (by kernel_rfl) (OK.nil ?_))))))
  refine X.seq (X.region (OK.seg 4 (by kernel_rfl) ?_))
  refine OK.rdP [.agg [I (-1073741824), I 1073741824], I (((s.objs).getD i o0) 9)] [.agg [I (-1073741824), I 1073741824], I (((s.objs).getD i o0) 9)] ((((s.objs).getD i o0) 9) ≥ (-1073741824) ∧ (((s.objs).getD i o0) 9) ≤ 1073741824) rfl (by kernel_rfl) rfl (by kernel_rfl) (by kernel_rfl) (by kernel_rfl) (by kernel_rfl) (by kernel_rfl) (has_w _ _ _ _ _ (by omega)) (fun h15 => ?_) (fun h15 => ?_)
  rotate_left
  ·
   refine OK.seg 1 (by kernel_rfl) (OK.nil ?_)
   refine X.condT (by kernel_rfl) ?_
   refine X.seq (X.region (OK.seg 1 (by kernel_rfl) (OK.nil ?_)))
   refine X.ret ?_
   exact ⟨rfl, giv (r := .bool false) (by kernel_rfl) (bool_f (p := okR s) (by intro hh; first | (have h2 := hh.2.1; simp only [okP] at h2; omega) | (have h2 := hh.2.2; simp only [okG] at h2; omega) | (have h2 := hh.1 i (by simp only [List.length_map] at *; omega); simp only [okO, List.length_map] at *; omega)))⟩
  refine OK.seg 1 (by kernel_rfl) (OK.nil ?_)
  refine X.condF (by kernel_rfl) ?_
  refine X.skip (X.region (OK.seg 2 (by kernel_rfl) (OK.nil ?_)))
  show X _ _ _ _ _ _ _ _ _
  refine X.loop1 (by kernel_rfl) ?_
  refine X.seq (X.region (OK.seg 1 (by kernel_rfl) (OK.nil ?_)))
  refine X.seq (X.condT (by kernel_rfl) ?_)
  refine X.skip (X.seq (X.block (X.seq (X.region (OK.seg 4 (by kernel_rfl) (OK.nil ?_))))))
  refine X.seq (X.region (OK.seg 4 (by kernel_rfl) ?_))
  refine OK.rdP [.agg [I 0, I 255], I (((s.objs).getD i o0) 10)] [.agg [I 0, I 255], I (((s.objs).getD i o0) 10)] ((((s.objs).getD i o0) 10) ≥ 0 ∧ (((s.objs).getD i o0) 10) ≤ 255) rfl (by kernel_rfl) rfl (by kernel_rfl) (by kernel_rfl) (by kernel_rfl) (by kernel_rfl) (by kernel_rfl) (has_w _ _ _ _ _ (by omega)) (fun h16 => ?_) (fun h16 => ?_)
  rotate_left
  ·
   refine OK.seg 1 (by kernel_rfl) (OK.nil ?_)
   refine X.condT (by kernel_rfl) ?_
   refine X.seq (X.region (OK.seg 1 (by kernel_rfl) (OK.nil ?_)))
   refine X.ret ?_
   exact ⟨rfl, giv (r := .bool false) (by kernel_rfl) (bool_f (p := okR s) (by intro hh; first | (have h2 := hh.2.1; simp only [okP] at h2; omega) | (have h2 := hh.2.2; simp only [okG] at h2; omega) | (have h2 := hh.1 i (by simp only [List.length_map] at *; omega); simp only [okO, List.length_map] at *; omega)))⟩
  refine OK.seg 1 (by kernel_rfl) (OK.nil ?_)
  refine X.condF (by kernel_rfl) ?_
  refine X.skip (X.region (OK.seg 2 (by kernel_rfl) (OK.nil ?_)))
  show X _ _ _ _ _ _ _ _ _
  refine X.loop1 (by kernel_rfl) ?_
  refine X.seq (X.region (OK.seg 1 (by kernel_rfl) (OK.nil ?_)))
  refine X.seq (X.condT (by kernel_rfl) ?_)
  refine X.skip (X.seq (X.block (X.seq (X.region (OK.seg 4 (by kernel_rfl) (OK.nil ?_))))))
  refine X.seq (X.region (OK.seg 4 (by kernel_rfl) ?_))
  refine OK.rdP [.agg [I 0, I 1], I (((s.objs).getD i o0) 11)] [.agg [I 0, I 1], I (((s.objs).getD i o0) 11)] ((((s.objs).getD i o0) 11) ≥ 0 ∧ (((s.objs).getD i o0) 11) ≤ 1) rfl (by kernel_rfl) rfl (by kernel_rfl) (by kernel_rfl) (by kernel_rfl) (by kernel_rfl) (by kernel_rfl) (has_w _ _ _ _ _ (by omega)) (fun h17 => ?_) (fun h17 => ?_)
  rotate_left
  ·
   refine OK.seg 1 (by kernel_rfl) (OK.nil ?_)
   refine X.condT (by kernel_rfl) ?_
   refine X.seq (X.region (OK.seg 1 (by kernel_rfl) (OK.nil ?_)))
   refine X.ret ?_
   exact ⟨rfl, giv (r := .bool false) (by kernel_rfl) (bool_f (p := okR s) (by intro hh; first | (have h2 := hh.2.1; simp only [okP] at h2; omega) | (have h2 := hh.2.2; simp only [okG] at h2; omega) | (have h2 := hh.1 i (by simp only [List.length_map] at *; omega); simp only [okO, List.length_map] at *; omega)))⟩
  refine OK.seg 1 (by kernel_rfl) (OK.nil ?_)
  refine X.condF (by kernel_rfl) ?_
  refine X.skip (X.region (OK.seg 2 (by kernel_rfl) (OK.nil ?_)))
  show X _ _ _ _ _ _ _ _ _
  refine X.loop1 (by kernel_rfl) ?_
  refine X.seq (X.region (OK.seg 1 (by kernel_rfl) (OK.nil ?_)))
  refine X.seq (X.condT (by kernel_rfl) ?_)
  refine X.skip (X.seq (X.block (X.seq (X.region (OK.seg 4 (by kernel_rfl) (OK.nil ?_))))))
  refine X.seq (X.region (OK.seg 4 (by kernel_rfl) ?_))
  refine OK.rdP [.agg [I 0, I ((((s.objs).map E).length : Nat) : Int)], I (((s.objs).getD i o0) 12)] [.agg [I 0, I ((((s.objs).map E).length : Nat) : Int)], I (((s.objs).getD i o0) 12)] ((((s.objs).getD i o0) 12) ≥ 0 ∧ (((s.objs).getD i o0) 12) ≤ ((((s.objs).map E).length : Nat) : Int)) rfl (by kernel_rfl) rfl (by kernel_rfl) (by kernel_rfl) (by kernel_rfl) (by kernel_rfl) (by kernel_rfl) (has_w _ _ _ _ _ (by omega)) (fun h18 => ?_) (fun h18 => ?_)
  rotate_left
  ·
   refine OK.seg 1 (by kernel_rfl) (OK.nil ?_)
   refine X.condT (by kernel_rfl) ?_
   refine X.seq (X.region (OK.seg 1 (by kernel_rfl) (OK.nil ?_)))
   refine X.ret ?_
   exact ⟨rfl, giv (r := .bool false) (by kernel_rfl) (bool_f (p := okR s) (by intro hh; first | (have h2 := hh.2.1; simp only [okP] at h2; omega) | (have h2 := hh.2.2; simp only [okG] at h2; omega) | (have h2 := hh.1 i (by simp only [List.length_map] at *; omega); simp only [okO, List.length_map] at *; omega)))⟩
  refine OK.seg 1 (by kernel_rfl) (OK.nil ?_)
  refine X.condF (by kernel_rfl) ?_
  refine X.skip (X.region (OK.seg 2 (by kernel_rfl) (OK.nil ?_)))
  show X _ _ _ _ _ _ _ _ _
  refine X.loop1 (by kernel_rfl) ?_
  refine X.seq (X.region (OK.seg 1 (by kernel_rfl) (OK.nil ?_)))
  refine X.seq (X.condT (by kernel_rfl) ?_)
  refine X.skip (X.seq (X.block (X.seq (X.region (OK.seg 4 (by kernel_rfl) (OK.nil ?_))))))
  refine X.seq (X.region (OK.seg 4 (by kernel_rfl) ?_))
  refine OK.rdP [.agg [I 0, I 2], I (((s.objs).getD i o0) 13)] [.agg [I 0, I 2], I (((s.objs).getD i o0) 13)] ((((s.objs).getD i o0) 13) ≥ 0 ∧ (((s.objs).getD i o0) 13) ≤ 2) rfl (by kernel_rfl) rfl (by kernel_rfl) (by kernel_rfl) (by kernel_rfl) (by kernel_rfl) (by kernel_rfl) (has_w _ _ _ _ _ (by omega)) (fun h19 => ?_) (fun h19 => ?_)
  rotate_left
  ·
   refine OK.seg 1 (by kernel_rfl) (OK.nil ?_)
   refine X.condT (by kernel_rfl) ?_
   refine X.seq (X.region (OK.seg 1 (by kernel_rfl) (OK.nil ?_)))
   refine X.ret ?_
   exact ⟨rfl, giv (r := .bool false) (by kernel_rfl) (bool_f (p := okR s) (by intro hh; first | (have h2 := hh.2.1; simp only [okP] at h2; omega) | (have h2 := hh.2.2; simp only [okG] at h2; omega) | (have h2 := hh.1 i (by simp only [List.length_map] at *; omega); simp only [okO, List.length_map] at *; omega)))⟩
  refine OK.seg 1 (by kernel_rfl) (OK.nil ?_)
  refine X.condF (by kernel_rfl) ?_
  refine X.skip (X.region (OK.seg 2 (by kernel_rfl) (OK.nil ?_)))
  show X _ _ _ _ _ _ _ _ _
  refine X.loop1 (by kernel_rfl) ?_
  refine X.seq (X.region (OK.seg 1 (by kernel_rfl) (OK.nil ?_)))
  refine X.seq (X.condT (by kernel_rfl) ?_)
  refine X.skip (X.seq (X.block (X.seq (X.region (OK.seg 4 (by kernel_rfl) (OK.nil ?_))))))
  refine X.seq (X.region (OK.seg 4 (by kernel_rfl) ?_))
  refine OK.rdP [.agg [I 0, I 3], I (((s.objs).getD i o0) 14)] [.agg [I 0, I 3], I (((s.objs).getD i o0) 14)] ((((s.objs).getD i o0) 14) ≥ 0 ∧ (((s.objs).getD i o0) 14) ≤ 3) rfl (by kernel_rfl) rfl (by kernel_rfl) (by kernel_rfl) (by kernel_rfl) (by kernel_rfl) (by kernel_rfl) (has_w _ _ _ _ _ (by omega)) (fun h20 => ?_) (fun h20 => ?_)
  rotate_left
  ·
   refine OK.seg 1 (by kernel_rfl) (OK.nil ?_)
   refine X.condT (by kernel_rfl) ?_
   refine X.seq (X.region (OK.seg 1 (by kernel_rfl) (OK.nil ?_)))
   refine X.ret ?_
   exact ⟨rfl, giv (r := .bool false) (by kernel_rfl) (bool_f (p := okR s) (by intro hh; first | (have h2 := hh.2.1; simp only [okP] at h2; omega) | (have h2 := hh.2.2; simp only [okG] at h2; omega) | (have h2 := hh.1 i (by simp only [List.length_map] at *; omega); simp only [okO, List.length_map] at *; omega)))⟩
  refine OK.seg 1 (by kernel_rfl) (OK.nil ?_)
  refine X.condF (by kernel_rfl) ?_
  refine X.skip (X.region (OK.seg 2 (by kernel_rfl) (OK.nil ?_)))
  show X _ _ _ _ _ _ _ _ _
  refine X.loop1 (by kernel_rfl) ?_
  refine X.seq (X.region (OK.seg 1 (by kernel_rfl) (OK.nil ?_)))
  refine X.seq (X.condT (by kernel_rfl) ?_)
  refine X.skip (X.seq (X.block (X.seq (X.region (OK.seg 4 (by kernel_rfl) (OK.nil ?_))))))
  refine X.seq (X.region (OK.seg 4 (by kernel_rfl) ?_))
  refine OK.rdP [.agg [I 0, I ((((s.objs).map E).length : Nat) : Int)], I (((s.objs).getD i o0) 15)] [.agg [I 0, I ((((s.objs).map E).length : Nat) : Int)], I (((s.objs).getD i o0) 15)] ((((s.objs).getD i o0) 15) ≥ 0 ∧ (((s.objs).getD i o0) 15) ≤ ((((s.objs).map E).length : Nat) : Int)) rfl (by kernel_rfl) rfl (by kernel_rfl) (by kernel_rfl) (by kernel_rfl) (by kernel_rfl) (by kernel_rfl) (has_w _ _ _ _ _ (by omega)) (fun h21 => ?_) (fun h21 => ?_)
  rotate_left
  ·
   refine OK.seg 1 (by kernel_rfl) (OK.nil ?_)
   refine X.condT (by kernel_rfl) ?_
   refine X.seq (X.region (OK.seg 1 (by kernel_rfl) (OK.nil ?_)))
   refine X.ret ?_
   exact ⟨rfl, giv (r := .bool false) (by kernel_rfl) (bool_f (p := okR s) (by intro hh; first | (have h2 := hh.2.1; simp only [okP] at h2; omega) | (have h2 := hh.2.2; simp only [okG] at h2; omega) | (have h2 := hh.1 i (by simp only [List.length_map] at *; omega); simp only [okO, List.length_map] at *; omega)))⟩
  refine OK.seg 1 (by kernel_rfl) (OK.nil ?_)
  refine X.condF (by kernel_rfl) ?_
  refine X.skip (X.region (OK.seg 2 (by kernel_rfl) (OK.nil ?_)))
  show X _ _ _ _ _ _ _ _ _
  refine X.loop1 (by kernel_rfl) ?_
  refine X.seq (X.region (OK.seg 1 (by kernel_rfl) (OK.nil ?_)))
  refine X.seq (X.condT (by kernel_rfl) ?_)
  refine X.skip (X.seq (X.block (X.seq (X.region (OK.seg 4 (by kernel_rfl) (OK.nil ?_))))))
  refine X.seq (X.region (OK.seg 4 (by kernel_rfl) ?_))
  refine OK.rdP [.agg [I (-2), I ((((s.objs).map E).length : Nat) : Int)], I (((s.objs).getD i o0) 16)] [.agg [I (-2), I ((((s.objs).map E).length : Nat) : Int)], I (((s.objs).getD i o0) 16)] ((((s.objs).getD i o0) 16) ≥ (-2) ∧ (((s.objs).getD i o0) 16) ≤ ((((s.objs).map E).length : Nat) : Int)) rfl (by kernel_rfl) rfl (by kernel_rfl) (by kernel_rfl) (by kernel_rfl) (by kernel_rfl) (by kernel_rfl) (has_w _ _ _ _ _ (by omega)) (fun h22 => ?_) (fun h22 => ?_)
  rotate_left
  ·
   refine OK.seg 1 (by kernel_rfl) (OK.nil ?_)
   refine X.condT (by kernel_rfl) ?_
   refine X.seq (X.region (OK.seg 1 (by kernel_rfl) (OK.nil ?_)))
   refine X.ret ?_
   exact ⟨rfl, giv (r := .bool false) (by kernel_rfl) (bool_f (p := okR s) (by intro hh; first | (have h2 := hh.2.1; simp only [okP] at h2; omega) | (have h2 := hh.2.2; simp only [okG] at h2; omega) | (have h2 := hh.1 i (by simp only [List.length_map] at *; omega); simp only [okO, List.length_map] at *; omega)))⟩
  refine OK.seg 1 (by kernel_rfl) (OK.nil ?_)
  refine X.condF (by kernel_rfl) ?_
  refine X.skip (X.region (OK.seg 2 (by kernel_rfl) (OK.nil ?_)))
  show X _ _ _ _ _ _ _ _ _
  refine X.loop1 (by kernel_rfl) ?_
  refine X.seq (X.region (OK.seg 1 (by kernel_rfl) (OK.nil ?_)))
  refine X.seq (X.condT (by kernel_rfl) ?_)
  refine X.skip (X.seq (X.block (X.seq (X.region (OK.seg 4 (by kernel_rfl) (OK.nil ?_))))))
  refine X.seq (X.region (OK.seg 4 (by kernel_rfl) ?_))
  refine OK.rdP [.agg [I 0, I 3], I (((s.objs).getD i o0) 17)] [.agg [I 0, I 3], I (((s.objs).getD i o0) 17)] ((((s.objs).getD i o0) 17) ≥ 0 ∧ (((s.objs).getD i o0) 17) ≤ 3) rfl (by kernel_rfl) rfl (by kernel_rfl) (by kernel_rfl) (by kernel_rfl) (by kernel_rfl) (by kernel_rfl) (has_w _ _ _ _ _ (by omega)) (fun h23 => ?_) (fun h23 => ?_)
  rotate_left
  ·
   refine OK.seg 1 (by kernel_rfl) (OK.nil ?_)
   refine X.condT (by kernel_rfl) ?_
   refine X.seq (X.region (OK.seg 1 (by kernel_rfl) (OK.nil ?_)))
   refine X.ret ?_
   exact ⟨rfl, giv (r := .bool false) (by kernel_rfl) (bool_f (p := okR s) (by intro hh; first | (have h2 := hh.2.1; simp only [okP] at h2; omega) | (have h2 := hh.2.2; simp only [okG] at h2; omega) | (have h2 := hh.1 i (by simp only [List.length_map] at *; omega); simp only [okO, List.length_map] at *; omega)))⟩
  refine OK.seg 1 (by kernel_rfl) (OK.nil ?_)
  refine X.condF (by kernel_rfl) ?_
  refine X.skip (X.region (OK.seg 2 (by kernel_rfl) (OK.nil ?_)))
  show X _ _ _ _ _ _ _ _ _
  refine X.loop1 (by kernel_rfl) ?_
  refine X.seq (X.region (OK.seg 1 (by kernel_rfl) (OK.nil ?_)))
  refine X.seq (X.condF (by kernel_rfl) ?_)
  refine X.exit ?_
  show X _ _ _ _ _ _ _ _ _
  refine X.region ?_
  refine OK.val (I ((i + 1 : Nat) : Int)) (by kernel_rfl) (fun _ => add_op (k := .i64) (a := ((i : Nat) : Int)) (b := 1) rfl (by kernel_rfl) (by kernel_rfl) (by rw [wrap64] <;> first | omega | (simp only [List.length_map] at *; omega))) ?_
  refine OK.seg 1 (by kernel_rfl) (OK.nil ?_)
  refine ⟨([.agg (cS s), .ptr 0 0, .opq, .ptr 1 0, undefA, .opq, .opq, .opq] ++ List.replicate 6 undefA ++ [.ptr 0 0, .list ((s.objs).map E) false, I ((((s.objs).map E).length : Nat) : Int), .agg (bC ((((s.objs).map E).length : Nat) : Int)), .ptr 0 0, .list ((s.objs).map E) false, I ((((s.objs).map E).length : Nat) : Int), I ((i + 1 : Nat) : Int)] ++ List.replicate 16 .opq ++ List.replicate 31 undefA : List AV), [.box (cS s) false, .box (bC ((((s.objs).map E).length : Nat) : Int)) false, .box (cO ((s.objs).getD i o0)) false], [0, 1, 0, 0], [[], [], []], by kernel_rfl, by kernel_rfl, by simp only [bS, bC], by simp only [bS, bC], by kernel_rfl, m4 - 1, by first | omega | (simp only [List.length_map] at *; omega), i + 1, by first | rfl | omega, by kernel_rfl, by kernel_rfl, ?_⟩
  refine ⟨by first | omega | (simp only [List.length_map] at *; omega), fun j hj => ?_⟩
  rcases Nat.lt_or_ge j i with hq | hq
  · exact h1.2 j hq
  · obtain rfl : j = i := by omega
    simp only [List.length_map] at *; simp only [okO]; omega
 refine OK.nil ?_
 refine X.seq (X.condF (by kernel_rfl) ?_)
 refine X.exit ?_
 show X _ _ _ _ _ _ _ _ _
 refine X.seq (X.seq (X.region (OK.seg 3 (by kernel_rfl) (OK.nil ?_))))
 refine X.block ?_
 refine X.at ([.agg (cS s), .ptr 0 0, .opq, .ptr 1 0, undefA, .opq, .opq, .opq] ++ List.replicate 6 undefA ++ [.ptr 0 0, .list ((s.objs).map E) false, I ((((s.objs).map E).length : Nat) : Int), .agg (bC ((((s.objs).map E).length : Nat) : Int)), .ptr 0 0, .list ((s.objs).map E) false, I ((((s.objs).map E).length : Nat) : Int), I ((i : Nat) : Int), .bool false] ++ List.replicate 15 .opq ++ [.ptr 0 12, .agg [I (s.pl 0), I (s.pl 1), I (s.pl 2), I (s.pl 3), I (s.pl 4), I (s.pl 5), I (s.pl 6), I (s.pl 7), I (s.pl 8), I (s.pl 9), I (s.pl 10), I (s.pl 11), I (s.pl 12), I (s.pl 13), I (s.pl 14), I (s.pl 15), I (s.pl 16), I (s.pl 17)], I 0] ++ List.replicate 28 undefA : List AV) [.box (cS s) false, .box (bC ((((s.objs).map E).length : Nat) : Int)) false] (by kernel_rfl) (by kernel_rfl) ?_
 refine X.loop1 (by kernel_rfl) ?_
 refine X.seq (X.region (OK.seg 1 (by kernel_rfl) (OK.nil ?_)))
 refine X.seq (X.condT (by kernel_rfl) ?_)
 refine X.skip (X.seq (X.block (X.seq (X.region (OK.seg 3 (by kernel_rfl) (OK.nil ?_))))))
 refine X.seq (X.region ?_)
 refine OK.rd [] [] (.agg (pC)) rfl (by kernel_rfl) rfl (by kernel_rfl) (by kernel_rfl) (by kernel_rfl) (by kernel_rfl) (by kernel_rfl) (players_w _ _ (by omega)) ?_
 refine OK.seg 1 (by kernel_rfl) (OK.nil ?_)
 refine X.block ?_
 refine X.at ([.agg (cS s), .ptr 0 0, .opq, .ptr 1 0, undefA, .opq, .opq, .opq, undefA, .ptr 2 0] ++ List.replicate 4 undefA ++ [.ptr 0 0, .list ((s.objs).map E) false, I ((((s.objs).map E).length : Nat) : Int), .agg (bC ((((s.objs).map E).length : Nat) : Int)), .ptr 0 0, .list ((s.objs).map E) false, I ((((s.objs).map E).length : Nat) : Int), I ((i : Nat) : Int), .bool false] ++ List.replicate 15 .opq ++ [.ptr 0 12, .agg [I (s.pl 0), I (s.pl 1), I (s.pl 2), I (s.pl 3), I (s.pl 4), I (s.pl 5), I (s.pl 6), I (s.pl 7), I (s.pl 8), I (s.pl 9), I (s.pl 10), I (s.pl 11), I (s.pl 12), I (s.pl 13), I (s.pl 14), I (s.pl 15), I (s.pl 16), I (s.pl 17)], I 0, .bool true, .agg [I (s.pl 0), I (s.pl 1), I (s.pl 2), I (s.pl 3), I (s.pl 4), I (s.pl 5), I (s.pl 6), I (s.pl 7), I (s.pl 8)], .agg (pC), I 0] ++ List.replicate 24 undefA : List AV) [.box (cS s) false, .box (bC ((((s.objs).map E).length : Nat) : Int)) false, .box [I (s.pl 0), I (s.pl 1), I (s.pl 2), I (s.pl 3), I (s.pl 4), I (s.pl 5), I (s.pl 6), I (s.pl 7), I (s.pl 8)] false] (by kernel_rfl) (by kernel_rfl) ?_
 refine X.loop1 (by kernel_rfl) ?_
 refine X.seq (X.region (OK.seg 1 (by kernel_rfl) (OK.nil ?_)))
 refine X.seq (X.condT (by kernel_rfl) ?_)
 refine X.skip (X.seq (X.block (X.seq (X.region (OK.seg 5 (by kernel_rfl) (OK.nil ?_))))))
 refine X.seq (X.draw (by kernel_rfl) (by kernel_rfl) (by kernel_rfl) ?_)
 refine DK.seg 4 (by kernel_rfl) ?_
 refine DK.rdP [.agg [I (-1073741824), I 1073741824], I (s.pl 0)] [.agg [I (-1073741824), I 1073741824], I (s.pl 0)] ((s.pl 0) ≥ (-1073741824) ∧ (s.pl 0) ≤ 1073741824) rfl (by kernel_rfl) rfl (by kernel_rfl) (by kernel_rfl) (by kernel_rfl) (by kernel_rfl) (by kernel_rfl) (has_w _ _ _ _ _ (by omega)) (fun h24 => ?_) (fun h24 => ?_)
 rotate_left
 ·
  refine DK.seg 1 (by kernel_rfl) (DK.nil ?_)
  refine X.condT (by kernel_rfl) ?_
  refine X.seq (X.region (OK.seg 1 (by kernel_rfl) (OK.nil ?_)))
  refine X.ret ?_
  exact ⟨rfl, giv (r := .bool false) (by kernel_rfl) (bool_f (p := okR s) (by intro hh; first | (have h2 := hh.2.1; simp only [okP] at h2; omega) | (have h2 := hh.2.2; simp only [okG] at h2; omega) | (have h2 := hh.1 i (by simp only [List.length_map] at *; omega); simp only [okO, List.length_map] at *; omega)))⟩
 refine DK.seg 1 (by kernel_rfl) (DK.nil ?_)
 refine X.condF (by kernel_rfl) ?_
 refine X.skip (X.region (OK.seg 2 (by kernel_rfl) (OK.nil ?_)))
 show X _ _ _ _ _ _ _ _ _
 refine X.loop1 (by kernel_rfl) ?_
 refine X.seq (X.region (OK.seg 1 (by kernel_rfl) (OK.nil ?_)))
 refine X.seq (X.condT (by kernel_rfl) ?_)
 refine X.skip (X.seq (X.block (X.seq (X.region (OK.seg 5 (by kernel_rfl) (OK.nil ?_))))))
 refine X.seq (X.draw (by kernel_rfl) (by kernel_rfl) (by kernel_rfl) ?_)
 refine DK.seg 4 (by kernel_rfl) ?_
 refine DK.rdP [.agg [I 0, I 1000], I (s.pl 1)] [.agg [I 0, I 1000], I (s.pl 1)] ((s.pl 1) ≥ 0 ∧ (s.pl 1) ≤ 1000) rfl (by kernel_rfl) rfl (by kernel_rfl) (by kernel_rfl) (by kernel_rfl) (by kernel_rfl) (by kernel_rfl) (has_w _ _ _ _ _ (by omega)) (fun h25 => ?_) (fun h25 => ?_)
 rotate_left
 ·
  refine DK.seg 1 (by kernel_rfl) (DK.nil ?_)
  refine X.condT (by kernel_rfl) ?_
  refine X.seq (X.region (OK.seg 1 (by kernel_rfl) (OK.nil ?_)))
  refine X.ret ?_
  exact ⟨rfl, giv (r := .bool false) (by kernel_rfl) (bool_f (p := okR s) (by intro hh; first | (have h2 := hh.2.1; simp only [okP] at h2; omega) | (have h2 := hh.2.2; simp only [okG] at h2; omega) | (have h2 := hh.1 i (by simp only [List.length_map] at *; omega); simp only [okO, List.length_map] at *; omega)))⟩
 refine DK.seg 1 (by kernel_rfl) (DK.nil ?_)
 refine X.condF (by kernel_rfl) ?_
 refine X.skip (X.region (OK.seg 2 (by kernel_rfl) (OK.nil ?_)))
 show X _ _ _ _ _ _ _ _ _
 refine X.loop1 (by kernel_rfl) ?_
 refine X.seq (X.region (OK.seg 1 (by kernel_rfl) (OK.nil ?_)))
 refine X.seq (X.condT (by kernel_rfl) ?_)
 refine X.skip (X.seq (X.block (X.seq (X.region (OK.seg 5 (by kernel_rfl) (OK.nil ?_))))))
 refine X.seq (X.draw (by kernel_rfl) (by kernel_rfl) (by kernel_rfl) ?_)
 refine DK.seg 4 (by kernel_rfl) ?_
 refine DK.rdP [.agg [I 0, I 1000], I (s.pl 2)] [.agg [I 0, I 1000], I (s.pl 2)] ((s.pl 2) ≥ 0 ∧ (s.pl 2) ≤ 1000) rfl (by kernel_rfl) rfl (by kernel_rfl) (by kernel_rfl) (by kernel_rfl) (by kernel_rfl) (by kernel_rfl) (has_w _ _ _ _ _ (by omega)) (fun h26 => ?_) (fun h26 => ?_)
 rotate_left
 ·
  refine DK.seg 1 (by kernel_rfl) (DK.nil ?_)
  refine X.condT (by kernel_rfl) ?_
  refine X.seq (X.region (OK.seg 1 (by kernel_rfl) (OK.nil ?_)))
  refine X.ret ?_
  exact ⟨rfl, giv (r := .bool false) (by kernel_rfl) (bool_f (p := okR s) (by intro hh; first | (have h2 := hh.2.1; simp only [okP] at h2; omega) | (have h2 := hh.2.2; simp only [okG] at h2; omega) | (have h2 := hh.1 i (by simp only [List.length_map] at *; omega); simp only [okO, List.length_map] at *; omega)))⟩
 refine DK.seg 1 (by kernel_rfl) (DK.nil ?_)
 refine X.condF (by kernel_rfl) ?_
 refine X.skip (X.region (OK.seg 2 (by kernel_rfl) (OK.nil ?_)))
 show X _ _ _ _ _ _ _ _ _
 refine X.loop1 (by kernel_rfl) ?_
 refine X.seq (X.region (OK.seg 1 (by kernel_rfl) (OK.nil ?_)))
 refine X.seq (X.condT (by kernel_rfl) ?_)
 refine X.skip (X.seq (X.block (X.seq (X.region (OK.seg 5 (by kernel_rfl) (OK.nil ?_))))))
 refine X.seq (X.draw (by kernel_rfl) (by kernel_rfl) (by kernel_rfl) ?_)
 refine DK.seg 4 (by kernel_rfl) ?_
 refine DK.rdP [.agg [I 0, I 1000], I (s.pl 3)] [.agg [I 0, I 1000], I (s.pl 3)] ((s.pl 3) ≥ 0 ∧ (s.pl 3) ≤ 1000) rfl (by kernel_rfl) rfl (by kernel_rfl) (by kernel_rfl) (by kernel_rfl) (by kernel_rfl) (by kernel_rfl) (has_w _ _ _ _ _ (by omega)) (fun h27 => ?_) (fun h27 => ?_)
 rotate_left
 ·
  refine DK.seg 1 (by kernel_rfl) (DK.nil ?_)
  refine X.condT (by kernel_rfl) ?_
  refine X.seq (X.region (OK.seg 1 (by kernel_rfl) (OK.nil ?_)))
  refine X.ret ?_
  exact ⟨rfl, giv (r := .bool false) (by kernel_rfl) (bool_f (p := okR s) (by intro hh; first | (have h2 := hh.2.1; simp only [okP] at h2; omega) | (have h2 := hh.2.2; simp only [okG] at h2; omega) | (have h2 := hh.1 i (by simp only [List.length_map] at *; omega); simp only [okO, List.length_map] at *; omega)))⟩
 refine DK.seg 1 (by kernel_rfl) (DK.nil ?_)
 refine X.condF (by kernel_rfl) ?_
 refine X.skip (X.region (OK.seg 2 (by kernel_rfl) (OK.nil ?_)))
 show X _ _ _ _ _ _ _ _ _
 refine X.loop1 (by kernel_rfl) ?_
 refine X.seq (X.region (OK.seg 1 (by kernel_rfl) (OK.nil ?_)))
 refine X.seq (X.condT (by kernel_rfl) ?_)
 refine X.skip (X.seq (X.block (X.seq (X.region (OK.seg 5 (by kernel_rfl) (OK.nil ?_))))))
 refine X.seq (X.draw (by kernel_rfl) (by kernel_rfl) (by kernel_rfl) ?_)
 refine DK.seg 4 (by kernel_rfl) ?_
 refine DK.rdP [.agg [I 0, I 1000], I (s.pl 4)] [.agg [I 0, I 1000], I (s.pl 4)] ((s.pl 4) ≥ 0 ∧ (s.pl 4) ≤ 1000) rfl (by kernel_rfl) rfl (by kernel_rfl) (by kernel_rfl) (by kernel_rfl) (by kernel_rfl) (by kernel_rfl) (has_w _ _ _ _ _ (by omega)) (fun h28 => ?_) (fun h28 => ?_)
 rotate_left
 ·
  refine DK.seg 1 (by kernel_rfl) (DK.nil ?_)
  refine X.condT (by kernel_rfl) ?_
  refine X.seq (X.region (OK.seg 1 (by kernel_rfl) (OK.nil ?_)))
  refine X.ret ?_
  exact ⟨rfl, giv (r := .bool false) (by kernel_rfl) (bool_f (p := okR s) (by intro hh; first | (have h2 := hh.2.1; simp only [okP] at h2; omega) | (have h2 := hh.2.2; simp only [okG] at h2; omega) | (have h2 := hh.1 i (by simp only [List.length_map] at *; omega); simp only [okO, List.length_map] at *; omega)))⟩
 refine DK.seg 1 (by kernel_rfl) (DK.nil ?_)
 refine X.condF (by kernel_rfl) ?_
 refine X.skip (X.region (OK.seg 2 (by kernel_rfl) (OK.nil ?_)))
 show X _ _ _ _ _ _ _ _ _
 refine X.loop1 (by kernel_rfl) ?_
 refine X.seq (X.region (OK.seg 1 (by kernel_rfl) (OK.nil ?_)))
 refine X.seq (X.condT (by kernel_rfl) ?_)
 refine X.skip (X.seq (X.block (X.seq (X.region (OK.seg 5 (by kernel_rfl) (OK.nil ?_))))))
 refine X.seq (X.draw (by kernel_rfl) (by kernel_rfl) (by kernel_rfl) ?_)
 refine DK.seg 4 (by kernel_rfl) ?_
 refine DK.rdP [.agg [I 0, I 1000], I (s.pl 5)] [.agg [I 0, I 1000], I (s.pl 5)] ((s.pl 5) ≥ 0 ∧ (s.pl 5) ≤ 1000) rfl (by kernel_rfl) rfl (by kernel_rfl) (by kernel_rfl) (by kernel_rfl) (by kernel_rfl) (by kernel_rfl) (has_w _ _ _ _ _ (by omega)) (fun h29 => ?_) (fun h29 => ?_)
 rotate_left
 ·
  refine DK.seg 1 (by kernel_rfl) (DK.nil ?_)
  refine X.condT (by kernel_rfl) ?_
  refine X.seq (X.region (OK.seg 1 (by kernel_rfl) (OK.nil ?_)))
  refine X.ret ?_
  exact ⟨rfl, giv (r := .bool false) (by kernel_rfl) (bool_f (p := okR s) (by intro hh; first | (have h2 := hh.2.1; simp only [okP] at h2; omega) | (have h2 := hh.2.2; simp only [okG] at h2; omega) | (have h2 := hh.1 i (by simp only [List.length_map] at *; omega); simp only [okO, List.length_map] at *; omega)))⟩
 refine DK.seg 1 (by kernel_rfl) (DK.nil ?_)
 refine X.condF (by kernel_rfl) ?_
 refine X.skip (X.region (OK.seg 2 (by kernel_rfl) (OK.nil ?_)))
 show X _ _ _ _ _ _ _ _ _
 refine X.loop1 (by kernel_rfl) ?_
 refine X.seq (X.region (OK.seg 1 (by kernel_rfl) (OK.nil ?_)))
 refine X.seq (X.condT (by kernel_rfl) ?_)
 refine X.skip (X.seq (X.block (X.seq (X.region (OK.seg 5 (by kernel_rfl) (OK.nil ?_))))))
 refine X.seq (X.draw (by kernel_rfl) (by kernel_rfl) (by kernel_rfl) ?_)
 refine DK.seg 4 (by kernel_rfl) ?_
 refine DK.rdP [.agg [I 0, I 1000], I (s.pl 6)] [.agg [I 0, I 1000], I (s.pl 6)] ((s.pl 6) ≥ 0 ∧ (s.pl 6) ≤ 1000) rfl (by kernel_rfl) rfl (by kernel_rfl) (by kernel_rfl) (by kernel_rfl) (by kernel_rfl) (by kernel_rfl) (has_w _ _ _ _ _ (by omega)) (fun h30 => ?_) (fun h30 => ?_)
 rotate_left
 ·
  refine DK.seg 1 (by kernel_rfl) (DK.nil ?_)
  refine X.condT (by kernel_rfl) ?_
  refine X.seq (X.region (OK.seg 1 (by kernel_rfl) (OK.nil ?_)))
  refine X.ret ?_
  exact ⟨rfl, giv (r := .bool false) (by kernel_rfl) (bool_f (p := okR s) (by intro hh; first | (have h2 := hh.2.1; simp only [okP] at h2; omega) | (have h2 := hh.2.2; simp only [okG] at h2; omega) | (have h2 := hh.1 i (by simp only [List.length_map] at *; omega); simp only [okO, List.length_map] at *; omega)))⟩
 refine DK.seg 1 (by kernel_rfl) (DK.nil ?_)
 refine X.condF (by kernel_rfl) ?_
 refine X.skip (X.region (OK.seg 2 (by kernel_rfl) (OK.nil ?_)))
 show X _ _ _ _ _ _ _ _ _
 refine X.loop1 (by kernel_rfl) ?_
 refine X.seq (X.region (OK.seg 1 (by kernel_rfl) (OK.nil ?_)))
 refine X.seq (X.condT (by kernel_rfl) ?_)
 refine X.skip (X.seq (X.block (X.seq (X.region (OK.seg 5 (by kernel_rfl) (OK.nil ?_))))))
 refine X.seq (X.draw (by kernel_rfl) (by kernel_rfl) (by kernel_rfl) ?_)
 refine DK.seg 4 (by kernel_rfl) ?_
 refine DK.rdP [.agg [I 0, I 1], I (s.pl 7)] [.agg [I 0, I 1], I (s.pl 7)] ((s.pl 7) ≥ 0 ∧ (s.pl 7) ≤ 1) rfl (by kernel_rfl) rfl (by kernel_rfl) (by kernel_rfl) (by kernel_rfl) (by kernel_rfl) (by kernel_rfl) (has_w _ _ _ _ _ (by omega)) (fun h31 => ?_) (fun h31 => ?_)
 rotate_left
 ·
  refine DK.seg 1 (by kernel_rfl) (DK.nil ?_)
  refine X.condT (by kernel_rfl) ?_
  refine X.seq (X.region (OK.seg 1 (by kernel_rfl) (OK.nil ?_)))
  refine X.ret ?_
  exact ⟨rfl, giv (r := .bool false) (by kernel_rfl) (bool_f (p := okR s) (by intro hh; first | (have h2 := hh.2.1; simp only [okP] at h2; omega) | (have h2 := hh.2.2; simp only [okG] at h2; omega) | (have h2 := hh.1 i (by simp only [List.length_map] at *; omega); simp only [okO, List.length_map] at *; omega)))⟩
 refine DK.seg 1 (by kernel_rfl) (DK.nil ?_)
 refine X.condF (by kernel_rfl) ?_
 refine X.skip (X.region (OK.seg 2 (by kernel_rfl) (OK.nil ?_)))
 show X _ _ _ _ _ _ _ _ _
 refine X.loop1 (by kernel_rfl) ?_
 refine X.seq (X.region (OK.seg 1 (by kernel_rfl) (OK.nil ?_)))
 refine X.seq (X.condT (by kernel_rfl) ?_)
 refine X.skip (X.seq (X.block (X.seq (X.region (OK.seg 5 (by kernel_rfl) (OK.nil ?_))))))
 refine X.seq (X.draw (by kernel_rfl) (by kernel_rfl) (by kernel_rfl) ?_)
 refine DK.seg 4 (by kernel_rfl) ?_
 refine DK.rdP [.agg [I 0, I 1], I (s.pl 8)] [.agg [I 0, I 1], I (s.pl 8)] ((s.pl 8) ≥ 0 ∧ (s.pl 8) ≤ 1) rfl (by kernel_rfl) rfl (by kernel_rfl) (by kernel_rfl) (by kernel_rfl) (by kernel_rfl) (by kernel_rfl) (has_w _ _ _ _ _ (by omega)) (fun h32 => ?_) (fun h32 => ?_)
 rotate_left
 ·
  refine DK.seg 1 (by kernel_rfl) (DK.nil ?_)
  refine X.condT (by kernel_rfl) ?_
  refine X.seq (X.region (OK.seg 1 (by kernel_rfl) (OK.nil ?_)))
  refine X.ret ?_
  exact ⟨rfl, giv (r := .bool false) (by kernel_rfl) (bool_f (p := okR s) (by intro hh; first | (have h2 := hh.2.1; simp only [okP] at h2; omega) | (have h2 := hh.2.2; simp only [okG] at h2; omega) | (have h2 := hh.1 i (by simp only [List.length_map] at *; omega); simp only [okO, List.length_map] at *; omega)))⟩
 refine DK.seg 1 (by kernel_rfl) (DK.nil ?_)
 refine X.condF (by kernel_rfl) ?_
 refine X.skip (X.region (OK.seg 2 (by kernel_rfl) (OK.nil ?_)))
 show X _ _ _ _ _ _ _ _ _
 refine X.loop1 (by kernel_rfl) ?_
 refine X.seq (X.region (OK.seg 1 (by kernel_rfl) (OK.nil ?_)))
 refine X.seq (X.condF (by kernel_rfl) ?_)
 refine X.exit ?_
 show X _ _ _ _ _ _ _ _ _
 refine X.region (OK.seg 2 (by kernel_rfl) (OK.nil ?_))
 show X _ _ _ _ _ _ _ _ _
 refine X.loop1 (by kernel_rfl) ?_
 refine X.seq (X.region (OK.seg 1 (by kernel_rfl) (OK.nil ?_)))
 refine X.seq (X.condT (by kernel_rfl) ?_)
 refine X.skip (X.seq (X.block (X.seq (X.region (OK.seg 3 (by kernel_rfl) (OK.nil ?_))))))
 refine X.seq (X.region ?_)
 refine OK.rd [] [] (.agg (pC)) rfl (by kernel_rfl) rfl (by kernel_rfl) (by kernel_rfl) (by kernel_rfl) (by kernel_rfl) (by kernel_rfl) (players_w _ _ (by omega)) ?_
 refine OK.seg 1 (by kernel_rfl) (OK.nil ?_)
 refine X.block ?_
 refine X.at ([.agg (cS s), .ptr 0 0, .opq, .ptr 1 0, undefA, .opq, .opq, .opq, undefA, .ptr 12 0, I 8, .ptr 11 0, undefA, undefA, .ptr 0 0, .list ((s.objs).map E) false, I ((((s.objs).map E).length : Nat) : Int), .agg (bC ((((s.objs).map E).length : Nat) : Int)), .ptr 0 0, .list ((s.objs).map E) false, I ((((s.objs).map E).length : Nat) : Int), I ((i : Nat) : Int), .bool false] ++ List.replicate 15 .opq ++ [.ptr 0 12, .agg [I (s.pl 0), I (s.pl 1), I (s.pl 2), I (s.pl 3), I (s.pl 4), I (s.pl 5), I (s.pl 6), I (s.pl 7), I (s.pl 8), I (s.pl 9), I (s.pl 10), I (s.pl 11), I (s.pl 12), I (s.pl 13), I (s.pl 14), I (s.pl 15), I (s.pl 16), I (s.pl 17)], I 1, .bool true, .agg [I (s.pl 9), I (s.pl 10), I (s.pl 11), I (s.pl 12), I (s.pl 13), I (s.pl 14), I (s.pl 15), I (s.pl 16), I (s.pl 17)], .agg (pC), I 0, .bool false, I 8, .agg [I 0, I 1], .agg [I 0, I 1], I 8, .ptr 2 8, I (s.pl 8), .bool true, .bool false, I 9, I 1] ++ List.replicate 13 undefA : List AV) [.box (cS s) false, .box (bC ((((s.objs).map E).length : Nat) : Int)) false, .box [I (s.pl 0), I (s.pl 1), I (s.pl 2), I (s.pl 3), I (s.pl 4), I (s.pl 5), I (s.pl 6), I (s.pl 7), I (s.pl 8)] false, .box [I (-1073741824), I 1073741824] false, .box [I 0, I 1000] false, .box [I 0, I 1000] false, .box [I 0, I 1000] false, .box [I 0, I 1000] false, .box [I 0, I 1000] false, .box [I 0, I 1000] false, .box [I 0, I 1] false, .box [I 0, I 1] false, .box [I (s.pl 9), I (s.pl 10), I (s.pl 11), I (s.pl 12), I (s.pl 13), I (s.pl 14), I (s.pl 15), I (s.pl 16), I (s.pl 17)] false] (by kernel_rfl) (by kernel_rfl) ?_
 refine X.loop1 (by kernel_rfl) ?_
 refine X.seq (X.region (OK.seg 1 (by kernel_rfl) (OK.nil ?_)))
 refine X.seq (X.condT (by kernel_rfl) ?_)
 refine X.skip (X.seq (X.block (X.seq (X.region (OK.seg 5 (by kernel_rfl) (OK.nil ?_))))))
 refine X.seq (X.draw (by kernel_rfl) (by kernel_rfl) (by kernel_rfl) ?_)
 refine DK.seg 4 (by kernel_rfl) ?_
 refine DK.rdP [.agg [I (-1073741824), I 1073741824], I (s.pl 9)] [.agg [I (-1073741824), I 1073741824], I (s.pl 9)] ((s.pl 9) ≥ (-1073741824) ∧ (s.pl 9) ≤ 1073741824) rfl (by kernel_rfl) rfl (by kernel_rfl) (by kernel_rfl) (by kernel_rfl) (by kernel_rfl) (by kernel_rfl) (has_w _ _ _ _ _ (by omega)) (fun h33 => ?_) (fun h33 => ?_)
 rotate_left
 ·
  refine DK.seg 1 (by kernel_rfl) (DK.nil ?_)
  refine X.condT (by kernel_rfl) ?_
  refine X.seq (X.region (OK.seg 1 (by kernel_rfl) (OK.nil ?_)))
  refine X.ret ?_
  exact ⟨rfl, giv (r := .bool false) (by kernel_rfl) (bool_f (p := okR s) (by intro hh; first | (have h2 := hh.2.1; simp only [okP] at h2; omega) | (have h2 := hh.2.2; simp only [okG] at h2; omega) | (have h2 := hh.1 i (by simp only [List.length_map] at *; omega); simp only [okO, List.length_map] at *; omega)))⟩
 refine DK.seg 1 (by kernel_rfl) (DK.nil ?_)
 refine X.condF (by kernel_rfl) ?_
 refine X.skip (X.region (OK.seg 2 (by kernel_rfl) (OK.nil ?_)))
 show X _ _ _ _ _ _ _ _ _
 refine X.loop1 (by kernel_rfl) ?_
 refine X.seq (X.region (OK.seg 1 (by kernel_rfl) (OK.nil ?_)))
 refine X.seq (X.condT (by kernel_rfl) ?_)
 refine X.skip (X.seq (X.block (X.seq (X.region (OK.seg 5 (by kernel_rfl) (OK.nil ?_))))))
 refine X.seq (X.draw (by kernel_rfl) (by kernel_rfl) (by kernel_rfl) ?_)
 refine DK.seg 4 (by kernel_rfl) ?_
 refine DK.rdP [.agg [I 0, I 1000], I (s.pl 10)] [.agg [I 0, I 1000], I (s.pl 10)] ((s.pl 10) ≥ 0 ∧ (s.pl 10) ≤ 1000) rfl (by kernel_rfl) rfl (by kernel_rfl) (by kernel_rfl) (by kernel_rfl) (by kernel_rfl) (by kernel_rfl) (has_w _ _ _ _ _ (by omega)) (fun h34 => ?_) (fun h34 => ?_)
 rotate_left
 ·
  refine DK.seg 1 (by kernel_rfl) (DK.nil ?_)
  refine X.condT (by kernel_rfl) ?_
  refine X.seq (X.region (OK.seg 1 (by kernel_rfl) (OK.nil ?_)))
  refine X.ret ?_
  exact ⟨rfl, giv (r := .bool false) (by kernel_rfl) (bool_f (p := okR s) (by intro hh; first | (have h2 := hh.2.1; simp only [okP] at h2; omega) | (have h2 := hh.2.2; simp only [okG] at h2; omega) | (have h2 := hh.1 i (by simp only [List.length_map] at *; omega); simp only [okO, List.length_map] at *; omega)))⟩
 refine DK.seg 1 (by kernel_rfl) (DK.nil ?_)
 refine X.condF (by kernel_rfl) ?_
 refine X.skip (X.region (OK.seg 2 (by kernel_rfl) (OK.nil ?_)))
 show X _ _ _ _ _ _ _ _ _
 refine X.loop1 (by kernel_rfl) ?_
 refine X.seq (X.region (OK.seg 1 (by kernel_rfl) (OK.nil ?_)))
 refine X.seq (X.condT (by kernel_rfl) ?_)
 refine X.skip (X.seq (X.block (X.seq (X.region (OK.seg 5 (by kernel_rfl) (OK.nil ?_))))))
 refine X.seq (X.draw (by kernel_rfl) (by kernel_rfl) (by kernel_rfl) ?_)
 refine DK.seg 4 (by kernel_rfl) ?_
 refine DK.rdP [.agg [I 0, I 1000], I (s.pl 11)] [.agg [I 0, I 1000], I (s.pl 11)] ((s.pl 11) ≥ 0 ∧ (s.pl 11) ≤ 1000) rfl (by kernel_rfl) rfl (by kernel_rfl) (by kernel_rfl) (by kernel_rfl) (by kernel_rfl) (by kernel_rfl) (has_w _ _ _ _ _ (by omega)) (fun h35 => ?_) (fun h35 => ?_)
 rotate_left
 ·
  refine DK.seg 1 (by kernel_rfl) (DK.nil ?_)
  refine X.condT (by kernel_rfl) ?_
  refine X.seq (X.region (OK.seg 1 (by kernel_rfl) (OK.nil ?_)))
  refine X.ret ?_
  exact ⟨rfl, giv (r := .bool false) (by kernel_rfl) (bool_f (p := okR s) (by intro hh; first | (have h2 := hh.2.1; simp only [okP] at h2; omega) | (have h2 := hh.2.2; simp only [okG] at h2; omega) | (have h2 := hh.1 i (by simp only [List.length_map] at *; omega); simp only [okO, List.length_map] at *; omega)))⟩
 refine DK.seg 1 (by kernel_rfl) (DK.nil ?_)
 refine X.condF (by kernel_rfl) ?_
 refine X.skip (X.region (OK.seg 2 (by kernel_rfl) (OK.nil ?_)))
 show X _ _ _ _ _ _ _ _ _
 refine X.loop1 (by kernel_rfl) ?_
 refine X.seq (X.region (OK.seg 1 (by kernel_rfl) (OK.nil ?_)))
 refine X.seq (X.condT (by kernel_rfl) ?_)
 refine X.skip (X.seq (X.block (X.seq (X.region (OK.seg 5 (by kernel_rfl) (OK.nil ?_))))))
 refine X.seq (X.draw (by kernel_rfl) (by kernel_rfl) (by kernel_rfl) ?_)
 refine DK.seg 4 (by kernel_rfl) ?_
 refine DK.rdP [.agg [I 0, I 1000], I (s.pl 12)] [.agg [I 0, I 1000], I (s.pl 12)] ((s.pl 12) ≥ 0 ∧ (s.pl 12) ≤ 1000) rfl (by kernel_rfl) rfl (by kernel_rfl) (by kernel_rfl) (by kernel_rfl) (by kernel_rfl) (by kernel_rfl) (has_w _ _ _ _ _ (by omega)) (fun h36 => ?_) (fun h36 => ?_)
 rotate_left
 ·
  refine DK.seg 1 (by kernel_rfl) (DK.nil ?_)
  refine X.condT (by kernel_rfl) ?_
  refine X.seq (X.region (OK.seg 1 (by kernel_rfl) (OK.nil ?_)))
  refine X.ret ?_
  exact ⟨rfl, giv (r := .bool false) (by kernel_rfl) (bool_f (p := okR s) (by intro hh; first | (have h2 := hh.2.1; simp only [okP] at h2; omega) | (have h2 := hh.2.2; simp only [okG] at h2; omega) | (have h2 := hh.1 i (by simp only [List.length_map] at *; omega); simp only [okO, List.length_map] at *; omega)))⟩
 refine DK.seg 1 (by kernel_rfl) (DK.nil ?_)
 refine X.condF (by kernel_rfl) ?_
 refine X.skip (X.region (OK.seg 2 (by kernel_rfl) (OK.nil ?_)))
 show X _ _ _ _ _ _ _ _ _
 refine X.loop1 (by kernel_rfl) ?_
 refine X.seq (X.region (OK.seg 1 (by kernel_rfl) (OK.nil ?_)))
 refine X.seq (X.condT (by kernel_rfl) ?_)
 refine X.skip (X.seq (X.block (X.seq (X.region (OK.seg 5 (by kernel_rfl) (OK.nil ?_))))))
 refine X.seq (X.draw (by kernel_rfl) (by kernel_rfl) (by kernel_rfl) ?_)
 refine DK.seg 4 (by kernel_rfl) ?_
 refine DK.rdP [.agg [I 0, I 1000], I (s.pl 13)] [.agg [I 0, I 1000], I (s.pl 13)] ((s.pl 13) ≥ 0 ∧ (s.pl 13) ≤ 1000) rfl (by kernel_rfl) rfl (by kernel_rfl) (by kernel_rfl) (by kernel_rfl) (by kernel_rfl) (by kernel_rfl) (has_w _ _ _ _ _ (by omega)) (fun h37 => ?_) (fun h37 => ?_)
 rotate_left
 ·
  refine DK.seg 1 (by kernel_rfl) (DK.nil ?_)
  refine X.condT (by kernel_rfl) ?_
  refine X.seq (X.region (OK.seg 1 (by kernel_rfl) (OK.nil ?_)))
  refine X.ret ?_
  exact ⟨rfl, giv (r := .bool false) (by kernel_rfl) (bool_f (p := okR s) (by intro hh; first | (have h2 := hh.2.1; simp only [okP] at h2; omega) | (have h2 := hh.2.2; simp only [okG] at h2; omega) | (have h2 := hh.1 i (by simp only [List.length_map] at *; omega); simp only [okO, List.length_map] at *; omega)))⟩
 refine DK.seg 1 (by kernel_rfl) (DK.nil ?_)
 refine X.condF (by kernel_rfl) ?_
 refine X.skip (X.region (OK.seg 2 (by kernel_rfl) (OK.nil ?_)))
 show X _ _ _ _ _ _ _ _ _
 refine X.loop1 (by kernel_rfl) ?_
 refine X.seq (X.region (OK.seg 1 (by kernel_rfl) (OK.nil ?_)))
 refine X.seq (X.condT (by kernel_rfl) ?_)
 refine X.skip (X.seq (X.block (X.seq (X.region (OK.seg 5 (by kernel_rfl) (OK.nil ?_))))))
 refine X.seq (X.draw (by kernel_rfl) (by kernel_rfl) (by kernel_rfl) ?_)
 refine DK.seg 4 (by kernel_rfl) ?_
 refine DK.rdP [.agg [I 0, I 1000], I (s.pl 14)] [.agg [I 0, I 1000], I (s.pl 14)] ((s.pl 14) ≥ 0 ∧ (s.pl 14) ≤ 1000) rfl (by kernel_rfl) rfl (by kernel_rfl) (by kernel_rfl) (by kernel_rfl) (by kernel_rfl) (by kernel_rfl) (has_w _ _ _ _ _ (by omega)) (fun h38 => ?_) (fun h38 => ?_)
 rotate_left
 ·
  refine DK.seg 1 (by kernel_rfl) (DK.nil ?_)
  refine X.condT (by kernel_rfl) ?_
  refine X.seq (X.region (OK.seg 1 (by kernel_rfl) (OK.nil ?_)))
  refine X.ret ?_
  exact ⟨rfl, giv (r := .bool false) (by kernel_rfl) (bool_f (p := okR s) (by intro hh; first | (have h2 := hh.2.1; simp only [okP] at h2; omega) | (have h2 := hh.2.2; simp only [okG] at h2; omega) | (have h2 := hh.1 i (by simp only [List.length_map] at *; omega); simp only [okO, List.length_map] at *; omega)))⟩
 refine DK.seg 1 (by kernel_rfl) (DK.nil ?_)
 refine X.condF (by kernel_rfl) ?_
 refine X.skip (X.region (OK.seg 2 (by kernel_rfl) (OK.nil ?_)))
 show X _ _ _ _ _ _ _ _ _
 refine X.loop1 (by kernel_rfl) ?_
 refine X.seq (X.region (OK.seg 1 (by kernel_rfl) (OK.nil ?_)))
 refine X.seq (X.condT (by kernel_rfl) ?_)
 refine X.skip (X.seq (X.block (X.seq (X.region (OK.seg 5 (by kernel_rfl) (OK.nil ?_))))))
 refine X.seq (X.draw (by kernel_rfl) (by kernel_rfl) (by kernel_rfl) ?_)
 refine DK.seg 4 (by kernel_rfl) ?_
 refine DK.rdP [.agg [I 0, I 1000], I (s.pl 15)] [.agg [I 0, I 1000], I (s.pl 15)] ((s.pl 15) ≥ 0 ∧ (s.pl 15) ≤ 1000) rfl (by kernel_rfl) rfl (by kernel_rfl) (by kernel_rfl) (by kernel_rfl) (by kernel_rfl) (by kernel_rfl) (has_w _ _ _ _ _ (by omega)) (fun h39 => ?_) (fun h39 => ?_)
 rotate_left
 ·
  refine DK.seg 1 (by kernel_rfl) (DK.nil ?_)
  refine X.condT (by kernel_rfl) ?_
  refine X.seq (X.region (OK.seg 1 (by kernel_rfl) (OK.nil ?_)))
  refine X.ret ?_
  exact ⟨rfl, giv (r := .bool false) (by kernel_rfl) (bool_f (p := okR s) (by intro hh; first | (have h2 := hh.2.1; simp only [okP] at h2; omega) | (have h2 := hh.2.2; simp only [okG] at h2; omega) | (have h2 := hh.1 i (by simp only [List.length_map] at *; omega); simp only [okO, List.length_map] at *; omega)))⟩
 refine DK.seg 1 (by kernel_rfl) (DK.nil ?_)
 refine X.condF (by kernel_rfl) ?_
 refine X.skip (X.region (OK.seg 2 (by kernel_rfl) (OK.nil ?_)))
 show X _ _ _ _ _ _ _ _ _
 refine X.loop1 (by kernel_rfl) ?_
 refine X.seq (X.region (OK.seg 1 (by kernel_rfl) (OK.nil ?_)))
 refine X.seq (X.condT (by kernel_rfl) ?_)
 refine X.skip (X.seq (X.block (X.seq (X.region (OK.seg 5 (by kernel_rfl) (OK.nil ?_))))))
 refine X.seq (X.draw (by kernel_rfl) (by kernel_rfl) (by kernel_rfl) ?_)
 refine DK.seg 4 (by kernel_rfl) ?_
 refine DK.rdP [.agg [I 0, I 1], I (s.pl 16)] [.agg [I 0, I 1], I (s.pl 16)] ((s.pl 16) ≥ 0 ∧ (s.pl 16) ≤ 1) rfl (by kernel_rfl) rfl (by kernel_rfl) (by kernel_rfl) (by kernel_rfl) (by kernel_rfl) (by kernel_rfl) (has_w _ _ _ _ _ (by omega)) (fun h40 => ?_) (fun h40 => ?_)
 rotate_left
 ·
  refine DK.seg 1 (by kernel_rfl) (DK.nil ?_)
  refine X.condT (by kernel_rfl) ?_
  refine X.seq (X.region (OK.seg 1 (by kernel_rfl) (OK.nil ?_)))
  refine X.ret ?_
  exact ⟨rfl, giv (r := .bool false) (by kernel_rfl) (bool_f (p := okR s) (by intro hh; first | (have h2 := hh.2.1; simp only [okP] at h2; omega) | (have h2 := hh.2.2; simp only [okG] at h2; omega) | (have h2 := hh.1 i (by simp only [List.length_map] at *; omega); simp only [okO, List.length_map] at *; omega)))⟩
 refine DK.seg 1 (by kernel_rfl) (DK.nil ?_)
 refine X.condF (by kernel_rfl) ?_
 refine X.skip (X.region (OK.seg 2 (by kernel_rfl) (OK.nil ?_)))
 show X _ _ _ _ _ _ _ _ _
 refine X.loop1 (by kernel_rfl) ?_
 refine X.seq (X.region (OK.seg 1 (by kernel_rfl) (OK.nil ?_)))
 refine X.seq (X.condT (by kernel_rfl) ?_)
 refine X.skip (X.seq (X.block (X.seq (X.region (OK.seg 5 (by kernel_rfl) (OK.nil ?_))))))
 refine X.seq (X.draw (by kernel_rfl) (by kernel_rfl) (by kernel_rfl) ?_)
 refine DK.seg 4 (by kernel_rfl) ?_
 refine DK.rdP [.agg [I 0, I 1], I (s.pl 17)] [.agg [I 0, I 1], I (s.pl 17)] ((s.pl 17) ≥ 0 ∧ (s.pl 17) ≤ 1) rfl (by kernel_rfl) rfl (by kernel_rfl) (by kernel_rfl) (by kernel_rfl) (by kernel_rfl) (by kernel_rfl) (has_w _ _ _ _ _ (by omega)) (fun h41 => ?_) (fun h41 => ?_)
 rotate_left
 ·
  refine DK.seg 1 (by kernel_rfl) (DK.nil ?_)
  refine X.condT (by kernel_rfl) ?_
  refine X.seq (X.region (OK.seg 1 (by kernel_rfl) (OK.nil ?_)))
  refine X.ret ?_
  exact ⟨rfl, giv (r := .bool false) (by kernel_rfl) (bool_f (p := okR s) (by intro hh; first | (have h2 := hh.2.1; simp only [okP] at h2; omega) | (have h2 := hh.2.2; simp only [okG] at h2; omega) | (have h2 := hh.1 i (by simp only [List.length_map] at *; omega); simp only [okO, List.length_map] at *; omega)))⟩
 refine DK.seg 1 (by kernel_rfl) (DK.nil ?_)
 refine X.condF (by kernel_rfl) ?_
 refine X.skip (X.region (OK.seg 2 (by kernel_rfl) (OK.nil ?_)))
 show X _ _ _ _ _ _ _ _ _
 refine X.loop1 (by kernel_rfl) ?_
 refine X.seq (X.region (OK.seg 1 (by kernel_rfl) (OK.nil ?_)))
 refine X.seq (X.condF (by kernel_rfl) ?_)
 refine X.exit ?_
 show X _ _ _ _ _ _ _ _ _
 refine X.region (OK.seg 2 (by kernel_rfl) (OK.nil ?_))
 show X _ _ _ _ _ _ _ _ _
 refine X.loop1 (by kernel_rfl) ?_
 refine X.seq (X.region (OK.seg 1 (by kernel_rfl) (OK.nil ?_)))
 refine X.seq (X.condF (by kernel_rfl) ?_)
 refine X.exit ?_
 show X _ _ _ _ _ _ _ _ _
 refine X.seq (X.seq (X.region ?_))
 refine OK.rd [] [] (.agg (gC)) rfl (by kernel_rfl) rfl (by kernel_rfl) (by kernel_rfl) (by kernel_rfl) (by kernel_rfl) (by kernel_rfl) (game_w _ _ (by omega)) ?_
 refine OK.seg 1 (by kernel_rfl) (OK.nil ?_)
 refine X.block ?_
 refine X.at ([.agg (cS s), .ptr 0 0, .opq, .ptr 1 0, undefA, .opq, .opq, .opq, undefA, .ptr 12 0, I 8, .ptr 21 0, undefA, undefA, .ptr 0 0, .list ((s.objs).map E) false, I ((((s.objs).map E).length : Nat) : Int), .agg (bC ((((s.objs).map E).length : Nat) : Int)), .ptr 0 0, .list ((s.objs).map E) false, I ((((s.objs).map E).length : Nat) : Int), I ((i : Nat) : Int), .bool false] ++ List.replicate 15 .opq ++ [.ptr 0 12, .agg [I (s.pl 0), I (s.pl 1), I (s.pl 2), I (s.pl 3), I (s.pl 4), I (s.pl 5), I (s.pl 6), I (s.pl 7), I (s.pl 8), I (s.pl 9), I (s.pl 10), I (s.pl 11), I (s.pl 12), I (s.pl 13), I (s.pl 14), I (s.pl 15), I (s.pl 16), I (s.pl 17)], I 2, .bool false, .agg [I (s.pl 9), I (s.pl 10), I (s.pl 11), I (s.pl 12), I (s.pl 13), I (s.pl 14), I (s.pl 15), I (s.pl 16), I (s.pl 17)], .agg (pC), I 9, .bool false, I 8, .agg [I 0, I 1], .agg [I 0, I 1], I 8, .ptr 12 8, I (s.pl 17), .bool true, .bool false, I 9, I 2, .agg (gC), I 0] ++ List.replicate 11 undefA : List AV) [.box (cS s) false, .box (bC ((((s.objs).map E).length : Nat) : Int)) false, .box [I (s.pl 0), I (s.pl 1), I (s.pl 2), I (s.pl 3), I (s.pl 4), I (s.pl 5), I (s.pl 6), I (s.pl 7), I (s.pl 8)] false, .box [I (-1073741824), I 1073741824] false, .box [I 0, I 1000] false, .box [I 0, I 1000] false, .box [I 0, I 1000] false, .box [I 0, I 1000] false, .box [I 0, I 1000] false, .box [I 0, I 1000] false, .box [I 0, I 1] false, .box [I 0, I 1] false, .box [I (s.pl 9), I (s.pl 10), I (s.pl 11), I (s.pl 12), I (s.pl 13), I (s.pl 14), I (s.pl 15), I (s.pl 16), I (s.pl 17)] false, .box [I (-1073741824), I 1073741824] false, .box [I 0, I 1000] false, .box [I 0, I 1000] false, .box [I 0, I 1000] false, .box [I 0, I 1000] false, .box [I 0, I 1000] false, .box [I 0, I 1000] false, .box [I 0, I 1] false, .box [I 0, I 1] false] (by kernel_rfl) (by kernel_rfl) ?_
 refine X.loop1 (by kernel_rfl) ?_
 refine X.seq (X.region (OK.seg 1 (by kernel_rfl) (OK.nil ?_)))
 refine X.seq (X.condT (by kernel_rfl) ?_)
 refine X.skip (X.seq (X.block (X.seq (X.region (OK.seg 5 (by kernel_rfl) (OK.nil ?_))))))
 refine X.seq (X.draw (by kernel_rfl) (by kernel_rfl) (by kernel_rfl) ?_)
 refine DK.seg 5 (by kernel_rfl) ?_
 refine DK.rdP [.agg [I 0, I 1073741824], I (s.gm 0)] [.agg [I 0, I 1073741824], I (s.gm 0)] ((s.gm 0) ≥ 0 ∧ (s.gm 0) ≤ 1073741824) rfl (by kernel_rfl) rfl (by kernel_rfl) (by kernel_rfl) (by kernel_rfl) (by kernel_rfl) (by kernel_rfl) (has_w _ _ _ _ _ (by omega)) (fun h42 => ?_) (fun h42 => ?_)
 rotate_left
 ·
  refine DK.seg 1 (by kernel_rfl) (DK.nil ?_)
  refine X.condT (by kernel_rfl) ?_
  refine X.seq (X.region (OK.seg 1 (by kernel_rfl) (OK.nil ?_)))
  refine X.ret ?_
  exact ⟨rfl, giv (r := .bool false) (by kernel_rfl) (bool_f (p := okR s) (by intro hh; first | (have h2 := hh.2.1; simp only [okP] at h2; omega) | (have h2 := hh.2.2; simp only [okG] at h2; omega) | (have h2 := hh.1 i (by simp only [List.length_map] at *; omega); simp only [okO, List.length_map] at *; omega)))⟩
 refine DK.seg 1 (by kernel_rfl) (DK.nil ?_)
 refine X.condF (by kernel_rfl) ?_
 refine X.skip (X.region (OK.seg 2 (by kernel_rfl) (OK.nil ?_)))
 show X _ _ _ _ _ _ _ _ _
 refine X.loop1 (by kernel_rfl) ?_
 refine X.seq (X.region (OK.seg 1 (by kernel_rfl) (OK.nil ?_)))
 refine X.seq (X.condT (by kernel_rfl) ?_)
 refine X.skip (X.seq (X.block (X.seq (X.region (OK.seg 5 (by kernel_rfl) (OK.nil ?_))))))
 refine X.seq (X.draw (by kernel_rfl) (by kernel_rfl) (by kernel_rfl) ?_)
 refine DK.seg 5 (by kernel_rfl) ?_
 refine DK.rdP [.agg [I 0, I 1], I (s.gm 1)] [.agg [I 0, I 1], I (s.gm 1)] ((s.gm 1) ≥ 0 ∧ (s.gm 1) ≤ 1) rfl (by kernel_rfl) rfl (by kernel_rfl) (by kernel_rfl) (by kernel_rfl) (by kernel_rfl) (by kernel_rfl) (has_w _ _ _ _ _ (by omega)) (fun h43 => ?_) (fun h43 => ?_)
 rotate_left
 ·
  refine DK.seg 1 (by kernel_rfl) (DK.nil ?_)
  refine X.condT (by kernel_rfl) ?_
  refine X.seq (X.region (OK.seg 1 (by kernel_rfl) (OK.nil ?_)))
  refine X.ret ?_
  exact ⟨rfl, giv (r := .bool false) (by kernel_rfl) (bool_f (p := okR s) (by intro hh; first | (have h2 := hh.2.1; simp only [okP] at h2; omega) | (have h2 := hh.2.2; simp only [okG] at h2; omega) | (have h2 := hh.1 i (by simp only [List.length_map] at *; omega); simp only [okO, List.length_map] at *; omega)))⟩
 refine DK.seg 1 (by kernel_rfl) (DK.nil ?_)
 refine X.condF (by kernel_rfl) ?_
 refine X.skip (X.region (OK.seg 2 (by kernel_rfl) (OK.nil ?_)))
 show X _ _ _ _ _ _ _ _ _
 refine X.loop1 (by kernel_rfl) ?_
 refine X.seq (X.region (OK.seg 1 (by kernel_rfl) (OK.nil ?_)))
 refine X.seq (X.condT (by kernel_rfl) ?_)
 refine X.skip (X.seq (X.block (X.seq (X.region (OK.seg 5 (by kernel_rfl) (OK.nil ?_))))))
 refine X.seq (X.draw (by kernel_rfl) (by kernel_rfl) (by kernel_rfl) ?_)
 refine DK.seg 5 (by kernel_rfl) ?_
 refine DK.rdP [.agg [I 0, I 7], I (s.gm 2)] [.agg [I 0, I 7], I (s.gm 2)] ((s.gm 2) ≥ 0 ∧ (s.gm 2) ≤ 7) rfl (by kernel_rfl) rfl (by kernel_rfl) (by kernel_rfl) (by kernel_rfl) (by kernel_rfl) (by kernel_rfl) (has_w _ _ _ _ _ (by omega)) (fun h44 => ?_) (fun h44 => ?_)
 rotate_left
 ·
  refine DK.seg 1 (by kernel_rfl) (DK.nil ?_)
  refine X.condT (by kernel_rfl) ?_
  refine X.seq (X.region (OK.seg 1 (by kernel_rfl) (OK.nil ?_)))
  refine X.ret ?_
  exact ⟨rfl, giv (r := .bool false) (by kernel_rfl) (bool_f (p := okR s) (by intro hh; first | (have h2 := hh.2.1; simp only [okP] at h2; omega) | (have h2 := hh.2.2; simp only [okG] at h2; omega) | (have h2 := hh.1 i (by simp only [List.length_map] at *; omega); simp only [okO, List.length_map] at *; omega)))⟩
 refine DK.seg 1 (by kernel_rfl) (DK.nil ?_)
 refine X.condF (by kernel_rfl) ?_
 refine X.skip (X.region (OK.seg 2 (by kernel_rfl) (OK.nil ?_)))
 show X _ _ _ _ _ _ _ _ _
 refine X.loop1 (by kernel_rfl) ?_
 refine X.seq (X.region (OK.seg 1 (by kernel_rfl) (OK.nil ?_)))
 refine X.seq (X.condT (by kernel_rfl) ?_)
 refine X.skip (X.seq (X.block (X.seq (X.region (OK.seg 5 (by kernel_rfl) (OK.nil ?_))))))
 refine X.seq (X.draw (by kernel_rfl) (by kernel_rfl) (by kernel_rfl) ?_)
 refine DK.seg 5 (by kernel_rfl) ?_
 refine DK.rdP [.agg [I 0, I 1], I (s.gm 3)] [.agg [I 0, I 1], I (s.gm 3)] ((s.gm 3) ≥ 0 ∧ (s.gm 3) ≤ 1) rfl (by kernel_rfl) rfl (by kernel_rfl) (by kernel_rfl) (by kernel_rfl) (by kernel_rfl) (by kernel_rfl) (has_w _ _ _ _ _ (by omega)) (fun h45 => ?_) (fun h45 => ?_)
 rotate_left
 ·
  refine DK.seg 1 (by kernel_rfl) (DK.nil ?_)
  refine X.condT (by kernel_rfl) ?_
  refine X.seq (X.region (OK.seg 1 (by kernel_rfl) (OK.nil ?_)))
  refine X.ret ?_
  exact ⟨rfl, giv (r := .bool false) (by kernel_rfl) (bool_f (p := okR s) (by intro hh; first | (have h2 := hh.2.1; simp only [okP] at h2; omega) | (have h2 := hh.2.2; simp only [okG] at h2; omega) | (have h2 := hh.1 i (by simp only [List.length_map] at *; omega); simp only [okO, List.length_map] at *; omega)))⟩
 refine DK.seg 1 (by kernel_rfl) (DK.nil ?_)
 refine X.condF (by kernel_rfl) ?_
 refine X.skip (X.region (OK.seg 2 (by kernel_rfl) (OK.nil ?_)))
 show X _ _ _ _ _ _ _ _ _
 refine X.loop1 (by kernel_rfl) ?_
 refine X.seq (X.region (OK.seg 1 (by kernel_rfl) (OK.nil ?_)))
 refine X.seq (X.condT (by kernel_rfl) ?_)
 refine X.skip (X.seq (X.block (X.seq (X.region (OK.seg 5 (by kernel_rfl) (OK.nil ?_))))))
 refine X.seq (X.draw (by kernel_rfl) (by kernel_rfl) (by kernel_rfl) ?_)
 refine DK.seg 5 (by kernel_rfl) ?_
 refine DK.rdP [.agg [I 0, I 1], I (s.gm 4)] [.agg [I 0, I 1], I (s.gm 4)] ((s.gm 4) ≥ 0 ∧ (s.gm 4) ≤ 1) rfl (by kernel_rfl) rfl (by kernel_rfl) (by kernel_rfl) (by kernel_rfl) (by kernel_rfl) (by kernel_rfl) (has_w _ _ _ _ _ (by omega)) (fun h46 => ?_) (fun h46 => ?_)
 rotate_left
 ·
  refine DK.seg 1 (by kernel_rfl) (DK.nil ?_)
  refine X.condT (by kernel_rfl) ?_
  refine X.seq (X.region (OK.seg 1 (by kernel_rfl) (OK.nil ?_)))
  refine X.ret ?_
  exact ⟨rfl, giv (r := .bool false) (by kernel_rfl) (bool_f (p := okR s) (by intro hh; first | (have h2 := hh.2.1; simp only [okP] at h2; omega) | (have h2 := hh.2.2; simp only [okG] at h2; omega) | (have h2 := hh.1 i (by simp only [List.length_map] at *; omega); simp only [okO, List.length_map] at *; omega)))⟩
 refine DK.seg 1 (by kernel_rfl) (DK.nil ?_)
 refine X.condF (by kernel_rfl) ?_
 refine X.skip (X.region (OK.seg 2 (by kernel_rfl) (OK.nil ?_)))
 show X _ _ _ _ _ _ _ _ _
 refine X.loop1 (by kernel_rfl) ?_
 refine X.seq (X.region (OK.seg 1 (by kernel_rfl) (OK.nil ?_)))
 refine X.seq (X.condT (by kernel_rfl) ?_)
 refine X.skip (X.seq (X.block (X.seq (X.region (OK.seg 5 (by kernel_rfl) (OK.nil ?_))))))
 refine X.seq (X.draw (by kernel_rfl) (by kernel_rfl) (by kernel_rfl) ?_)
 refine DK.seg 5 (by kernel_rfl) ?_
 refine DK.rdP [.agg [I 0, I 4096], I (s.gm 5)] [.agg [I 0, I 4096], I (s.gm 5)] ((s.gm 5) ≥ 0 ∧ (s.gm 5) ≤ 4096) rfl (by kernel_rfl) rfl (by kernel_rfl) (by kernel_rfl) (by kernel_rfl) (by kernel_rfl) (by kernel_rfl) (has_w _ _ _ _ _ (by omega)) (fun h47 => ?_) (fun h47 => ?_)
 rotate_left
 ·
  refine DK.seg 1 (by kernel_rfl) (DK.nil ?_)
  refine X.condT (by kernel_rfl) ?_
  refine X.seq (X.region (OK.seg 1 (by kernel_rfl) (OK.nil ?_)))
  refine X.ret ?_
  exact ⟨rfl, giv (r := .bool false) (by kernel_rfl) (bool_f (p := okR s) (by intro hh; first | (have h2 := hh.2.1; simp only [okP] at h2; omega) | (have h2 := hh.2.2; simp only [okG] at h2; omega) | (have h2 := hh.1 i (by simp only [List.length_map] at *; omega); simp only [okO, List.length_map] at *; omega)))⟩
 refine DK.seg 1 (by kernel_rfl) (DK.nil ?_)
 refine X.condF (by kernel_rfl) ?_
 refine X.skip (X.region (OK.seg 2 (by kernel_rfl) (OK.nil ?_)))
 show X _ _ _ _ _ _ _ _ _
 refine X.loop1 (by kernel_rfl) ?_
 refine X.seq (X.region (OK.seg 1 (by kernel_rfl) (OK.nil ?_)))
 refine X.seq (X.condT (by kernel_rfl) ?_)
 refine X.skip (X.seq (X.block (X.seq (X.region (OK.seg 5 (by kernel_rfl) (OK.nil ?_))))))
 refine X.seq (X.draw (by kernel_rfl) (by kernel_rfl) (by kernel_rfl) ?_)
 refine DK.seg 5 (by kernel_rfl) ?_
 refine DK.rdP [.agg [I 0, I 3], I (s.gm 6)] [.agg [I 0, I 3], I (s.gm 6)] ((s.gm 6) ≥ 0 ∧ (s.gm 6) ≤ 3) rfl (by kernel_rfl) rfl (by kernel_rfl) (by kernel_rfl) (by kernel_rfl) (by kernel_rfl) (by kernel_rfl) (has_w _ _ _ _ _ (by omega)) (fun h48 => ?_) (fun h48 => ?_)
 rotate_left
 ·
  refine DK.seg 1 (by kernel_rfl) (DK.nil ?_)
  refine X.condT (by kernel_rfl) ?_
  refine X.seq (X.region (OK.seg 1 (by kernel_rfl) (OK.nil ?_)))
  refine X.ret ?_
  exact ⟨rfl, giv (r := .bool false) (by kernel_rfl) (bool_f (p := okR s) (by intro hh; first | (have h2 := hh.2.1; simp only [okP] at h2; omega) | (have h2 := hh.2.2; simp only [okG] at h2; omega) | (have h2 := hh.1 i (by simp only [List.length_map] at *; omega); simp only [okO, List.length_map] at *; omega)))⟩
 refine DK.seg 1 (by kernel_rfl) (DK.nil ?_)
 refine X.condF (by kernel_rfl) ?_
 refine X.skip (X.region (OK.seg 2 (by kernel_rfl) (OK.nil ?_)))
 show X _ _ _ _ _ _ _ _ _
 refine X.loop1 (by kernel_rfl) ?_
 refine X.seq (X.region (OK.seg 1 (by kernel_rfl) (OK.nil ?_)))
 refine X.seq (X.condF (by kernel_rfl) ?_)
 refine X.exit ?_
 show X _ _ _ _ _ _ _ _ _
 refine X.seq (X.region (OK.seg 1 (by kernel_rfl) (OK.nil ?_)))
 refine X.ret ?_
 exact ⟨rfl, giv (r := .bool true) (by kernel_rfl) (bool_t (p := okR s) (by refine ⟨fun j hj => h1.2 j (by simp only [List.length_map] at *; omega), ?_, ?_⟩; (simp only [okP]; omega); (simp only [okG]; omega)))⟩
def stn (o : Ob) (z : Nat) : Prop := (z < 8 → o 1 = z % 2 ∧ o 13 = 0) ∧ (z = 8 → o 13 ≠ 2)
instance (o : Ob) (z : Nat) : Decidable (stn o z) := by unfold stn; infer_instance
theorem Side_0 : ∀ k  σ, 60 ≤ k → readW (callW Tryz.prog (exec Tryz.prog cfg k)) 217 [I 0] σ = some (.tuple [I 0, I 0, .bool true], σ) := by
  intro k  σ hk
  obtain ⟨k, rfl⟩ : ∃ k', k = k' + 60 := ⟨k - 60, by omega⟩
  kernel_rfl
theorem Side_1 : ∀ k  σ, 60 ≤ k → readW (callW Tryz.prog (exec Tryz.prog cfg k)) 217 [I 1] σ = some (.tuple [I 0, I 1, .bool true], σ) := by
  intro k  σ hk
  obtain ⟨k, rfl⟩ : ∃ k', k = k' + 60 := ⟨k - 60, by omega⟩
  kernel_rfl
theorem Side_2 : ∀ k  σ, 60 ≤ k → readW (callW Tryz.prog (exec Tryz.prog cfg k)) 217 [I 2] σ = some (.tuple [I 2, I 0, .bool true], σ) := by
  intro k  σ hk
  obtain ⟨k, rfl⟩ : ∃ k', k = k' + 60 := ⟨k - 60, by omega⟩
  kernel_rfl
theorem Side_3 : ∀ k  σ, 60 ≤ k → readW (callW Tryz.prog (exec Tryz.prog cfg k)) 217 [I 3] σ = some (.tuple [I 2, I 1, .bool true], σ) := by
  intro k  σ hk
  obtain ⟨k, rfl⟩ : ∃ k', k = k' + 60 := ⟨k - 60, by omega⟩
  kernel_rfl
theorem Side_4 : ∀ k  σ, 60 ≤ k → readW (callW Tryz.prog (exec Tryz.prog cfg k)) 217 [I 4] σ = some (.tuple [I 4, I 0, .bool true], σ) := by
  intro k  σ hk
  obtain ⟨k, rfl⟩ : ∃ k', k = k' + 60 := ⟨k - 60, by omega⟩
  kernel_rfl
theorem Side_5 : ∀ k  σ, 60 ≤ k → readW (callW Tryz.prog (exec Tryz.prog cfg k)) 217 [I 5] σ = some (.tuple [I 4, I 1, .bool true], σ) := by
  intro k  σ hk
  obtain ⟨k, rfl⟩ : ∃ k', k = k' + 60 := ⟨k - 60, by omega⟩
  kernel_rfl
theorem Side_6 : ∀ k  σ, 60 ≤ k → readW (callW Tryz.prog (exec Tryz.prog cfg k)) 217 [I 6] σ = some (.tuple [I 6, I 0, .bool true], σ) := by
  intro k  σ hk
  obtain ⟨k, rfl⟩ : ∃ k', k = k' + 60 := ⟨k - 60, by omega⟩
  kernel_rfl
theorem Side_7 : ∀ k  σ, 60 ≤ k → readW (callW Tryz.prog (exec Tryz.prog cfg k)) 217 [I 7] σ = some (.tuple [I 6, I 1, .bool true], σ) := by
  intro k  σ hk
  obtain ⟨k, rfl⟩ : ∃ k', k = k' + 60 := ⟨k - 60, by omega⟩
  kernel_rfl
theorem Side_8 : ∀ k  σ, 60 ≤ k → readW (callW Tryz.prog (exec Tryz.prog cfg k)) 217 [I 8] σ = some (.tuple [I 8, I 0, .bool false], σ) := by
  intro k  σ hk
  obtain ⟨k, rfl⟩ : ∃ k', k = k' + 60 := ⟨k - 60, by omega⟩
  kernel_rfl
theorem Side_9 : ∀ k  σ, 60 ≤ k → readW (callW Tryz.prog (exec Tryz.prog cfg k)) 217 [I 9] σ = some (.tuple [I 9, I 0, .bool false], σ) := by
  intro k  σ hk
  obtain ⟨k, rfl⟩ : ∃ k', k = k' + 60 := ⟨k - 60, by omega⟩
  kernel_rfl
theorem Side_10 : ∀ k  σ, 60 ≤ k → readW (callW Tryz.prog (exec Tryz.prog cfg k)) 217 [I 10] σ = some (.tuple [I 10, I 0, .bool false], σ) := by
  intro k  σ hk
  obtain ⟨k, rfl⟩ : ∃ k', k = k' + 60 := ⟨k - 60, by omega⟩
  kernel_rfl
theorem stands_0 : ∀ k (o : Ob) σ, 120 ≤ k → readW (callW Tryz.prog (exec Tryz.prog cfg k)) 139 [.agg (cO o), I 0] σ = some (.bool (decide (stn o 0)), σ) := by
 intro k o σ hk
 obtain ⟨k, rfl⟩ : ∃ k', k = k' + 60 := ⟨k - 60, by omega⟩
 refine reader_of Tryz.func139 rfl (by simp only [AV.frees, AV.free, fr_I, fr_E, fr_cO, fr_cL, fr_cS, Bool.and_self]) ?_
 refine X.seq (X.region (OK.seg 2 (by kernel_rfl) (OK.nil ?_)))
 refine X.seq (X.region (OK.seg 1 (by kernel_rfl) ?_))
 refine OK.rd [I 0] [I 0] (.tuple [I 0, I 0, .bool true]) rfl (by kernel_rfl) rfl (by kernel_rfl) (by kernel_rfl) (by kernel_rfl) (by kernel_rfl) (by kernel_rfl) (Side_0 _ _ (by omega)) ?_
 refine OK.seg 7 (by kernel_rfl) (OK.nil ?_)
 refine X.seq (X.block (X.seq (X.region (OK.seg 2 (by kernel_rfl) (OK.nil ?_)))))
 refine X.condT (by kernel_rfl) ?_
 refine X.seq (X.region (OK.seg 3 (by kernel_rfl) ?_))
 refine OK.dec ((o 1) = 0) (by kernel_rfl) (by kernel_rfl) (fun h1 => ?_) (fun h1 => ?_)
 rotate_left
 ·
  refine OK.seg 6 (by kernel_rfl) (OK.nil ?_)
  refine X.ret ?_
  exact ⟨rfl, giv (r := .bool false) (by kernel_rfl) (bool_f (p := stn o 0) (by first | (simp only [stn]; omega) | simp_all [stn]))⟩
 refine OK.seg 3 (by kernel_rfl) ?_
 refine OK.dec ((o 13) = 0) (by kernel_rfl) (by kernel_rfl) (fun h2 => ?_) (fun h2 => ?_)
 ·
  refine OK.seg 2 (by kernel_rfl) (OK.nil ?_)
  refine X.ret ?_
  exact ⟨rfl, giv (r := .bool true) (by kernel_rfl) (bool_t (p := stn o 0) (by first | (simp only [stn]; omega) | simp_all [stn]))⟩
 refine OK.seg 2 (by kernel_rfl) (OK.nil ?_)
 refine X.ret ?_
 exact ⟨rfl, giv (r := .bool false) (by kernel_rfl) (bool_f (p := stn o 0) (by first | (simp only [stn]; omega) | simp_all [stn]))⟩
theorem stands_1 : ∀ k (o : Ob) σ, 120 ≤ k → readW (callW Tryz.prog (exec Tryz.prog cfg k)) 139 [.agg (cO o), I 1] σ = some (.bool (decide (stn o 1)), σ) := by
 intro k o σ hk
 obtain ⟨k, rfl⟩ : ∃ k', k = k' + 60 := ⟨k - 60, by omega⟩
 refine reader_of Tryz.func139 rfl (by simp only [AV.frees, AV.free, fr_I, fr_E, fr_cO, fr_cL, fr_cS, Bool.and_self]) ?_
 refine X.seq (X.region (OK.seg 2 (by kernel_rfl) (OK.nil ?_)))
 refine X.seq (X.region (OK.seg 1 (by kernel_rfl) ?_))
 refine OK.rd [I 1] [I 1] (.tuple [I 0, I 1, .bool true]) rfl (by kernel_rfl) rfl (by kernel_rfl) (by kernel_rfl) (by kernel_rfl) (by kernel_rfl) (by kernel_rfl) (Side_1 _ _ (by omega)) ?_
 refine OK.seg 7 (by kernel_rfl) (OK.nil ?_)
 refine X.seq (X.block (X.seq (X.region (OK.seg 2 (by kernel_rfl) (OK.nil ?_)))))
 refine X.condT (by kernel_rfl) ?_
 refine X.seq (X.region (OK.seg 3 (by kernel_rfl) ?_))
 refine OK.dec ((o 1) = 1) (by kernel_rfl) (by kernel_rfl) (fun h1 => ?_) (fun h1 => ?_)
 rotate_left
 ·
  refine OK.seg 6 (by kernel_rfl) (OK.nil ?_)
  refine X.ret ?_
  exact ⟨rfl, giv (r := .bool false) (by kernel_rfl) (bool_f (p := stn o 1) (by first | (simp only [stn]; omega) | simp_all [stn]))⟩
 refine OK.seg 3 (by kernel_rfl) ?_
 refine OK.dec ((o 13) = 0) (by kernel_rfl) (by kernel_rfl) (fun h2 => ?_) (fun h2 => ?_)
 ·
  refine OK.seg 2 (by kernel_rfl) (OK.nil ?_)
  refine X.ret ?_
  exact ⟨rfl, giv (r := .bool true) (by kernel_rfl) (bool_t (p := stn o 1) (by first | (simp only [stn]; omega) | simp_all [stn]))⟩
 refine OK.seg 2 (by kernel_rfl) (OK.nil ?_)
 refine X.ret ?_
 exact ⟨rfl, giv (r := .bool false) (by kernel_rfl) (bool_f (p := stn o 1) (by first | (simp only [stn]; omega) | simp_all [stn]))⟩
theorem stands_2 : ∀ k (o : Ob) σ, 120 ≤ k → readW (callW Tryz.prog (exec Tryz.prog cfg k)) 139 [.agg (cO o), I 2] σ = some (.bool (decide (stn o 2)), σ) := by
 intro k o σ hk
 obtain ⟨k, rfl⟩ : ∃ k', k = k' + 60 := ⟨k - 60, by omega⟩
 refine reader_of Tryz.func139 rfl (by simp only [AV.frees, AV.free, fr_I, fr_E, fr_cO, fr_cL, fr_cS, Bool.and_self]) ?_
 refine X.seq (X.region (OK.seg 2 (by kernel_rfl) (OK.nil ?_)))
 refine X.seq (X.region (OK.seg 1 (by kernel_rfl) ?_))
 refine OK.rd [I 2] [I 2] (.tuple [I 2, I 0, .bool true]) rfl (by kernel_rfl) rfl (by kernel_rfl) (by kernel_rfl) (by kernel_rfl) (by kernel_rfl) (by kernel_rfl) (Side_2 _ _ (by omega)) ?_
 refine OK.seg 7 (by kernel_rfl) (OK.nil ?_)
 refine X.seq (X.block (X.seq (X.region (OK.seg 2 (by kernel_rfl) (OK.nil ?_)))))
 refine X.condT (by kernel_rfl) ?_
 refine X.seq (X.region (OK.seg 3 (by kernel_rfl) ?_))
 refine OK.dec ((o 1) = 0) (by kernel_rfl) (by kernel_rfl) (fun h1 => ?_) (fun h1 => ?_)
 rotate_left
 ·
  refine OK.seg 6 (by kernel_rfl) (OK.nil ?_)
  refine X.ret ?_
  exact ⟨rfl, giv (r := .bool false) (by kernel_rfl) (bool_f (p := stn o 2) (by first | (simp only [stn]; omega) | simp_all [stn]))⟩
 refine OK.seg 3 (by kernel_rfl) ?_
 refine OK.dec ((o 13) = 0) (by kernel_rfl) (by kernel_rfl) (fun h2 => ?_) (fun h2 => ?_)
 ·
  refine OK.seg 2 (by kernel_rfl) (OK.nil ?_)
  refine X.ret ?_
  exact ⟨rfl, giv (r := .bool true) (by kernel_rfl) (bool_t (p := stn o 2) (by first | (simp only [stn]; omega) | simp_all [stn]))⟩
 refine OK.seg 2 (by kernel_rfl) (OK.nil ?_)
 refine X.ret ?_
 exact ⟨rfl, giv (r := .bool false) (by kernel_rfl) (bool_f (p := stn o 2) (by first | (simp only [stn]; omega) | simp_all [stn]))⟩
theorem stands_3 : ∀ k (o : Ob) σ, 120 ≤ k → readW (callW Tryz.prog (exec Tryz.prog cfg k)) 139 [.agg (cO o), I 3] σ = some (.bool (decide (stn o 3)), σ) := by
 intro k o σ hk
 obtain ⟨k, rfl⟩ : ∃ k', k = k' + 60 := ⟨k - 60, by omega⟩
 refine reader_of Tryz.func139 rfl (by simp only [AV.frees, AV.free, fr_I, fr_E, fr_cO, fr_cL, fr_cS, Bool.and_self]) ?_
 refine X.seq (X.region (OK.seg 2 (by kernel_rfl) (OK.nil ?_)))
 refine X.seq (X.region (OK.seg 1 (by kernel_rfl) ?_))
 refine OK.rd [I 3] [I 3] (.tuple [I 2, I 1, .bool true]) rfl (by kernel_rfl) rfl (by kernel_rfl) (by kernel_rfl) (by kernel_rfl) (by kernel_rfl) (by kernel_rfl) (Side_3 _ _ (by omega)) ?_
 refine OK.seg 7 (by kernel_rfl) (OK.nil ?_)
 refine X.seq (X.block (X.seq (X.region (OK.seg 2 (by kernel_rfl) (OK.nil ?_)))))
 refine X.condT (by kernel_rfl) ?_
 refine X.seq (X.region (OK.seg 3 (by kernel_rfl) ?_))
 refine OK.dec ((o 1) = 1) (by kernel_rfl) (by kernel_rfl) (fun h1 => ?_) (fun h1 => ?_)
 rotate_left
 ·
  refine OK.seg 6 (by kernel_rfl) (OK.nil ?_)
  refine X.ret ?_
  exact ⟨rfl, giv (r := .bool false) (by kernel_rfl) (bool_f (p := stn o 3) (by first | (simp only [stn]; omega) | simp_all [stn]))⟩
 refine OK.seg 3 (by kernel_rfl) ?_
 refine OK.dec ((o 13) = 0) (by kernel_rfl) (by kernel_rfl) (fun h2 => ?_) (fun h2 => ?_)
 ·
  refine OK.seg 2 (by kernel_rfl) (OK.nil ?_)
  refine X.ret ?_
  exact ⟨rfl, giv (r := .bool true) (by kernel_rfl) (bool_t (p := stn o 3) (by first | (simp only [stn]; omega) | simp_all [stn]))⟩
 refine OK.seg 2 (by kernel_rfl) (OK.nil ?_)
 refine X.ret ?_
 exact ⟨rfl, giv (r := .bool false) (by kernel_rfl) (bool_f (p := stn o 3) (by first | (simp only [stn]; omega) | simp_all [stn]))⟩
theorem stands_4 : ∀ k (o : Ob) σ, 120 ≤ k → readW (callW Tryz.prog (exec Tryz.prog cfg k)) 139 [.agg (cO o), I 4] σ = some (.bool (decide (stn o 4)), σ) := by
 intro k o σ hk
 obtain ⟨k, rfl⟩ : ∃ k', k = k' + 60 := ⟨k - 60, by omega⟩
 refine reader_of Tryz.func139 rfl (by simp only [AV.frees, AV.free, fr_I, fr_E, fr_cO, fr_cL, fr_cS, Bool.and_self]) ?_
 refine X.seq (X.region (OK.seg 2 (by kernel_rfl) (OK.nil ?_)))
 refine X.seq (X.region (OK.seg 1 (by kernel_rfl) ?_))
 refine OK.rd [I 4] [I 4] (.tuple [I 4, I 0, .bool true]) rfl (by kernel_rfl) rfl (by kernel_rfl) (by kernel_rfl) (by kernel_rfl) (by kernel_rfl) (by kernel_rfl) (Side_4 _ _ (by omega)) ?_
 refine OK.seg 7 (by kernel_rfl) (OK.nil ?_)
 refine X.seq (X.block (X.seq (X.region (OK.seg 2 (by kernel_rfl) (OK.nil ?_)))))
 refine X.condT (by kernel_rfl) ?_
 refine X.seq (X.region (OK.seg 3 (by kernel_rfl) ?_))
 refine OK.dec ((o 1) = 0) (by kernel_rfl) (by kernel_rfl) (fun h1 => ?_) (fun h1 => ?_)
 rotate_left
 ·
  refine OK.seg 6 (by kernel_rfl) (OK.nil ?_)
  refine X.ret ?_
  exact ⟨rfl, giv (r := .bool false) (by kernel_rfl) (bool_f (p := stn o 4) (by first | (simp only [stn]; omega) | simp_all [stn]))⟩
 refine OK.seg 3 (by kernel_rfl) ?_
 refine OK.dec ((o 13) = 0) (by kernel_rfl) (by kernel_rfl) (fun h2 => ?_) (fun h2 => ?_)
 ·
  refine OK.seg 2 (by kernel_rfl) (OK.nil ?_)
  refine X.ret ?_
  exact ⟨rfl, giv (r := .bool true) (by kernel_rfl) (bool_t (p := stn o 4) (by first | (simp only [stn]; omega) | simp_all [stn]))⟩
 refine OK.seg 2 (by kernel_rfl) (OK.nil ?_)
 refine X.ret ?_
 exact ⟨rfl, giv (r := .bool false) (by kernel_rfl) (bool_f (p := stn o 4) (by first | (simp only [stn]; omega) | simp_all [stn]))⟩
theorem stands_5 : ∀ k (o : Ob) σ, 120 ≤ k → readW (callW Tryz.prog (exec Tryz.prog cfg k)) 139 [.agg (cO o), I 5] σ = some (.bool (decide (stn o 5)), σ) := by
 intro k o σ hk
 obtain ⟨k, rfl⟩ : ∃ k', k = k' + 60 := ⟨k - 60, by omega⟩
 refine reader_of Tryz.func139 rfl (by simp only [AV.frees, AV.free, fr_I, fr_E, fr_cO, fr_cL, fr_cS, Bool.and_self]) ?_
 refine X.seq (X.region (OK.seg 2 (by kernel_rfl) (OK.nil ?_)))
 refine X.seq (X.region (OK.seg 1 (by kernel_rfl) ?_))
 refine OK.rd [I 5] [I 5] (.tuple [I 4, I 1, .bool true]) rfl (by kernel_rfl) rfl (by kernel_rfl) (by kernel_rfl) (by kernel_rfl) (by kernel_rfl) (by kernel_rfl) (Side_5 _ _ (by omega)) ?_
 refine OK.seg 7 (by kernel_rfl) (OK.nil ?_)
 refine X.seq (X.block (X.seq (X.region (OK.seg 2 (by kernel_rfl) (OK.nil ?_)))))
 refine X.condT (by kernel_rfl) ?_
 refine X.seq (X.region (OK.seg 3 (by kernel_rfl) ?_))
 refine OK.dec ((o 1) = 1) (by kernel_rfl) (by kernel_rfl) (fun h1 => ?_) (fun h1 => ?_)
 rotate_left
 ·
  refine OK.seg 6 (by kernel_rfl) (OK.nil ?_)
  refine X.ret ?_
  exact ⟨rfl, giv (r := .bool false) (by kernel_rfl) (bool_f (p := stn o 5) (by first | (simp only [stn]; omega) | simp_all [stn]))⟩
 refine OK.seg 3 (by kernel_rfl) ?_
 refine OK.dec ((o 13) = 0) (by kernel_rfl) (by kernel_rfl) (fun h2 => ?_) (fun h2 => ?_)
 ·
  refine OK.seg 2 (by kernel_rfl) (OK.nil ?_)
  refine X.ret ?_
  exact ⟨rfl, giv (r := .bool true) (by kernel_rfl) (bool_t (p := stn o 5) (by first | (simp only [stn]; omega) | simp_all [stn]))⟩
 refine OK.seg 2 (by kernel_rfl) (OK.nil ?_)
 refine X.ret ?_
 exact ⟨rfl, giv (r := .bool false) (by kernel_rfl) (bool_f (p := stn o 5) (by first | (simp only [stn]; omega) | simp_all [stn]))⟩
theorem stands_6 : ∀ k (o : Ob) σ, 120 ≤ k → readW (callW Tryz.prog (exec Tryz.prog cfg k)) 139 [.agg (cO o), I 6] σ = some (.bool (decide (stn o 6)), σ) := by
 intro k o σ hk
 obtain ⟨k, rfl⟩ : ∃ k', k = k' + 60 := ⟨k - 60, by omega⟩
 refine reader_of Tryz.func139 rfl (by simp only [AV.frees, AV.free, fr_I, fr_E, fr_cO, fr_cL, fr_cS, Bool.and_self]) ?_
 refine X.seq (X.region (OK.seg 2 (by kernel_rfl) (OK.nil ?_)))
 refine X.seq (X.region (OK.seg 1 (by kernel_rfl) ?_))
 refine OK.rd [I 6] [I 6] (.tuple [I 6, I 0, .bool true]) rfl (by kernel_rfl) rfl (by kernel_rfl) (by kernel_rfl) (by kernel_rfl) (by kernel_rfl) (by kernel_rfl) (Side_6 _ _ (by omega)) ?_
 refine OK.seg 7 (by kernel_rfl) (OK.nil ?_)
 refine X.seq (X.block (X.seq (X.region (OK.seg 2 (by kernel_rfl) (OK.nil ?_)))))
 refine X.condT (by kernel_rfl) ?_
 refine X.seq (X.region (OK.seg 3 (by kernel_rfl) ?_))
 refine OK.dec ((o 1) = 0) (by kernel_rfl) (by kernel_rfl) (fun h1 => ?_) (fun h1 => ?_)
 rotate_left
 ·
  refine OK.seg 6 (by kernel_rfl) (OK.nil ?_)
  refine X.ret ?_
  exact ⟨rfl, giv (r := .bool false) (by kernel_rfl) (bool_f (p := stn o 6) (by first | (simp only [stn]; omega) | simp_all [stn]))⟩
 refine OK.seg 3 (by kernel_rfl) ?_
 refine OK.dec ((o 13) = 0) (by kernel_rfl) (by kernel_rfl) (fun h2 => ?_) (fun h2 => ?_)
 ·
  refine OK.seg 2 (by kernel_rfl) (OK.nil ?_)
  refine X.ret ?_
  exact ⟨rfl, giv (r := .bool true) (by kernel_rfl) (bool_t (p := stn o 6) (by first | (simp only [stn]; omega) | simp_all [stn]))⟩
 refine OK.seg 2 (by kernel_rfl) (OK.nil ?_)
 refine X.ret ?_
 exact ⟨rfl, giv (r := .bool false) (by kernel_rfl) (bool_f (p := stn o 6) (by first | (simp only [stn]; omega) | simp_all [stn]))⟩
theorem stands_7 : ∀ k (o : Ob) σ, 120 ≤ k → readW (callW Tryz.prog (exec Tryz.prog cfg k)) 139 [.agg (cO o), I 7] σ = some (.bool (decide (stn o 7)), σ) := by
 intro k o σ hk
 obtain ⟨k, rfl⟩ : ∃ k', k = k' + 60 := ⟨k - 60, by omega⟩
 refine reader_of Tryz.func139 rfl (by simp only [AV.frees, AV.free, fr_I, fr_E, fr_cO, fr_cL, fr_cS, Bool.and_self]) ?_
 refine X.seq (X.region (OK.seg 2 (by kernel_rfl) (OK.nil ?_)))
 refine X.seq (X.region (OK.seg 1 (by kernel_rfl) ?_))
 refine OK.rd [I 7] [I 7] (.tuple [I 6, I 1, .bool true]) rfl (by kernel_rfl) rfl (by kernel_rfl) (by kernel_rfl) (by kernel_rfl) (by kernel_rfl) (by kernel_rfl) (Side_7 _ _ (by omega)) ?_
 refine OK.seg 7 (by kernel_rfl) (OK.nil ?_)
 refine X.seq (X.block (X.seq (X.region (OK.seg 2 (by kernel_rfl) (OK.nil ?_)))))
 refine X.condT (by kernel_rfl) ?_
 refine X.seq (X.region (OK.seg 3 (by kernel_rfl) ?_))
 refine OK.dec ((o 1) = 1) (by kernel_rfl) (by kernel_rfl) (fun h1 => ?_) (fun h1 => ?_)
 rotate_left
 ·
  refine OK.seg 6 (by kernel_rfl) (OK.nil ?_)
  refine X.ret ?_
  exact ⟨rfl, giv (r := .bool false) (by kernel_rfl) (bool_f (p := stn o 7) (by first | (simp only [stn]; omega) | simp_all [stn]))⟩
 refine OK.seg 3 (by kernel_rfl) ?_
 refine OK.dec ((o 13) = 0) (by kernel_rfl) (by kernel_rfl) (fun h2 => ?_) (fun h2 => ?_)
 ·
  refine OK.seg 2 (by kernel_rfl) (OK.nil ?_)
  refine X.ret ?_
  exact ⟨rfl, giv (r := .bool true) (by kernel_rfl) (bool_t (p := stn o 7) (by first | (simp only [stn]; omega) | simp_all [stn]))⟩
 refine OK.seg 2 (by kernel_rfl) (OK.nil ?_)
 refine X.ret ?_
 exact ⟨rfl, giv (r := .bool false) (by kernel_rfl) (bool_f (p := stn o 7) (by first | (simp only [stn]; omega) | simp_all [stn]))⟩
theorem stands_8 : ∀ k (o : Ob) σ, 120 ≤ k → readW (callW Tryz.prog (exec Tryz.prog cfg k)) 139 [.agg (cO o), I 8] σ = some (.bool (decide (stn o 8)), σ) := by
 intro k o σ hk
 obtain ⟨k, rfl⟩ : ∃ k', k = k' + 60 := ⟨k - 60, by omega⟩
 refine reader_of Tryz.func139 rfl (by simp only [AV.frees, AV.free, fr_I, fr_E, fr_cO, fr_cL, fr_cS, Bool.and_self]) ?_
 refine X.seq (X.region (OK.seg 2 (by kernel_rfl) (OK.nil ?_)))
 refine X.seq (X.region (OK.seg 1 (by kernel_rfl) ?_))
 refine OK.rd [I 8] [I 8] (.tuple [I 8, I 0, .bool false]) rfl (by kernel_rfl) rfl (by kernel_rfl) (by kernel_rfl) (by kernel_rfl) (by kernel_rfl) (by kernel_rfl) (Side_8 _ _ (by omega)) ?_
 refine OK.seg 7 (by kernel_rfl) (OK.nil ?_)
 refine X.seq (X.block (X.seq (X.region (OK.seg 2 (by kernel_rfl) (OK.nil ?_)))))
 refine X.condF (by kernel_rfl) ?_
 refine X.seq (X.region (OK.seg 3 (by kernel_rfl) (OK.nil ?_)))
 refine X.condT (by kernel_rfl) ?_
 refine X.seq (X.region (OK.seg 2 (by kernel_rfl) ?_))
 refine OK.ndec ((o 13) = 2) (by kernel_rfl) (by kernel_rfl) (fun h1 => ?_) (fun h1 => ?_)
 ·
  refine OK.seg 1 (by kernel_rfl) (OK.nil ?_)
  refine X.ret ?_
  exact ⟨rfl, giv (r := .bool true) (by kernel_rfl) (bool_t (p := stn o 8) (by first | (simp only [stn]; omega) | simp_all [stn]))⟩
 refine OK.seg 1 (by kernel_rfl) (OK.nil ?_)
 refine X.ret ?_
 exact ⟨rfl, giv (r := .bool false) (by kernel_rfl) (bool_f (p := stn o 8) (by first | (simp only [stn]; omega) | simp_all [stn]))⟩
theorem stands_9 : ∀ k (o : Ob) σ, 120 ≤ k → readW (callW Tryz.prog (exec Tryz.prog cfg k)) 139 [.agg (cO o), I 9] σ = some (.bool (decide (stn o 9)), σ) := by
 intro k o σ hk
 obtain ⟨k, rfl⟩ : ∃ k', k = k' + 60 := ⟨k - 60, by omega⟩
 refine reader_of Tryz.func139 rfl (by simp only [AV.frees, AV.free, fr_I, fr_E, fr_cO, fr_cL, fr_cS, Bool.and_self]) ?_
 refine X.seq (X.region (OK.seg 2 (by kernel_rfl) (OK.nil ?_)))
 refine X.seq (X.region (OK.seg 1 (by kernel_rfl) ?_))
 refine OK.rd [I 9] [I 9] (.tuple [I 9, I 0, .bool false]) rfl (by kernel_rfl) rfl (by kernel_rfl) (by kernel_rfl) (by kernel_rfl) (by kernel_rfl) (by kernel_rfl) (Side_9 _ _ (by omega)) ?_
 refine OK.seg 7 (by kernel_rfl) (OK.nil ?_)
 refine X.seq (X.block (X.seq (X.region (OK.seg 2 (by kernel_rfl) (OK.nil ?_)))))
 refine X.condF (by kernel_rfl) ?_
 refine X.seq (X.region (OK.seg 3 (by kernel_rfl) (OK.nil ?_)))
 refine X.condF (by kernel_rfl) ?_
 refine X.skip (X.seq (X.region (OK.seg 1 (by kernel_rfl) (OK.nil ?_))))
 refine X.ret ?_
 exact ⟨rfl, giv (r := .bool true) (by kernel_rfl) (bool_t (p := stn o 9) (by first | (simp only [stn]; omega) | simp_all [stn]))⟩
theorem stands_10 : ∀ k (o : Ob) σ, 120 ≤ k → readW (callW Tryz.prog (exec Tryz.prog cfg k)) 139 [.agg (cO o), I 10] σ = some (.bool (decide (stn o 10)), σ) := by
 intro k o σ hk
 obtain ⟨k, rfl⟩ : ∃ k', k = k' + 60 := ⟨k - 60, by omega⟩
 refine reader_of Tryz.func139 rfl (by simp only [AV.frees, AV.free, fr_I, fr_E, fr_cO, fr_cL, fr_cS, Bool.and_self]) ?_
 refine X.seq (X.region (OK.seg 2 (by kernel_rfl) (OK.nil ?_)))
 refine X.seq (X.region (OK.seg 1 (by kernel_rfl) ?_))
 refine OK.rd [I 10] [I 10] (.tuple [I 10, I 0, .bool false]) rfl (by kernel_rfl) rfl (by kernel_rfl) (by kernel_rfl) (by kernel_rfl) (by kernel_rfl) (by kernel_rfl) (Side_10 _ _ (by omega)) ?_
 refine OK.seg 7 (by kernel_rfl) (OK.nil ?_)
 refine X.seq (X.block (X.seq (X.region (OK.seg 2 (by kernel_rfl) (OK.nil ?_)))))
 refine X.condF (by kernel_rfl) ?_
 refine X.seq (X.region (OK.seg 3 (by kernel_rfl) (OK.nil ?_)))
 refine X.condF (by kernel_rfl) ?_
 refine X.skip (X.seq (X.region (OK.seg 1 (by kernel_rfl) (OK.nil ?_))))
 refine X.ret ?_
 exact ⟨rfl, giv (r := .bool true) (by kernel_rfl) (bool_t (p := stn o 10) (by first | (simp only [stn]; omega) | simp_all [stn]))⟩
theorem stands_w (z : Nat) (hz : z < 11) : ∀ k (o : Ob) σ, 120 ≤ k → readW (callW Tryz.prog (exec Tryz.prog cfg k)) 139 [.agg (cO o), I ((z : Nat) : Int)] σ = some (.bool (decide (stn o z)), σ) := by
  match z, hz with
  | 0, _ => exact stands_0
  | 1, _ => exact stands_1
  | 2, _ => exact stands_2
  | 3, _ => exact stands_3
  | 4, _ => exact stands_4
  | 5, _ => exact stands_5
  | 6, _ => exact stands_6
  | 7, _ => exact stands_7
  | 8, _ => exact stands_8
  | 9, _ => exact stands_9
  | 10, _ => exact stands_10
def fmd (o : Ob) : Prop := (o 3 ≠ 8 → o 4 = 0 ∧ o 5 = 0 ∧ o 6 = 0 ∧ o 7 = 0 ∧ o 8 = 0 ∧ o 9 = 0 ∧ o 10 = 0 ∧ o 11 = 0 ∧ o 12 = 0) ∧ (o 3 < 8 → o 2 = o 1) ∧ (o 3 ≠ 9 → o 16 = 0)
instance (o : Ob) : Decidable (fmd o) := by unfold fmd; infer_instance
theorem formed_w : ∀ k (o : Ob) σ, 120 ≤ k → readW (callW Tryz.prog (exec Tryz.prog cfg k)) 82 [.agg (cO o)] σ = some (.bool (decide (fmd o)), σ) := by
 intro k o σ hk
 obtain ⟨k, rfl⟩ : ∃ k', k = k' + 60 := ⟨k - 60, by omega⟩
 refine reader_of Tryz.func82 rfl (by simp only [AV.frees, AV.free, fr_I, fr_E, fr_cO, fr_cL, fr_cS, Bool.and_self]) ?_
 refine X.seq (X.region (OK.seg 2 (by kernel_rfl) (OK.nil ?_)))
 refine X.seq (X.region (OK.seg 3 (by kernel_rfl) (OK.nil ?_)))
 refine X.seq (X.seq (X.region (OK.seg 1 (by kernel_rfl) ?_)))
 refine OK.ndec ((o 3) = 8) (by kernel_rfl) (by kernel_rfl) (fun h1 => ?_) (fun h1 => ?_)
 rotate_left
 ·
  refine OK.seg 5 (by kernel_rfl) (OK.nil ?_)
  refine X.condF (by kernel_rfl) ?_
  refine X.skip (X.seq (X.seq (X.region (OK.seg 1 (by kernel_rfl) ?_))))
  refine OK.dec ((o 3) < 8) (by kernel_rfl) (by kernel_rfl) (fun h17 => ?_) (fun h17 => ?_)
  rotate_left
  ·
   refine OK.seg 7 (by kernel_rfl) (OK.nil ?_)
   refine X.condF (by kernel_rfl) ?_
   refine X.skip (X.seq (X.region (OK.seg 1 (by kernel_rfl) ?_)))
   refine OK.dec ((o 3) = 9) (by kernel_rfl) (by kernel_rfl) (fun h21 => ?_) (fun h21 => ?_)
   ·
    refine OK.seg 6 (by kernel_rfl) (OK.nil ?_)
    refine X.ret ?_
    exact ⟨rfl, giv (r := .bool true) (by kernel_rfl) (bool_t (p := fmd o) (by simp only [fmd]; omega))⟩
   refine OK.seg 3 (by kernel_rfl) ?_
   refine OK.dec ((o 16) = 0) (by kernel_rfl) (by kernel_rfl) (fun h22 => ?_) (fun h22 => ?_)
   ·
    refine OK.seg 2 (by kernel_rfl) (OK.nil ?_)
    refine X.ret ?_
    exact ⟨rfl, giv (r := .bool true) (by kernel_rfl) (bool_t (p := fmd o) (by simp only [fmd]; omega))⟩
   refine OK.seg 2 (by kernel_rfl) (OK.nil ?_)
   refine X.ret ?_
   exact ⟨rfl, giv (r := .bool false) (by kernel_rfl) (bool_f (p := fmd o) (by simp only [fmd]; omega))⟩
  refine OK.seg 5 (by kernel_rfl) ?_
  refine OK.ndec ((o 2) = (o 1)) (by kernel_rfl) (by kernel_rfl) (fun h18 => ?_) (fun h18 => ?_)
  ·
   refine OK.seg 1 (by kernel_rfl) (OK.nil ?_)
   refine X.condT (by kernel_rfl) ?_
   refine X.seq (X.region (OK.seg 1 (by kernel_rfl) (OK.nil ?_)))
   refine X.ret ?_
   exact ⟨rfl, giv (r := .bool false) (by kernel_rfl) (bool_f (p := fmd o) (by simp only [fmd]; omega))⟩
  refine OK.seg 1 (by kernel_rfl) (OK.nil ?_)
  refine X.condF (by kernel_rfl) ?_
  refine X.skip (X.seq (X.region (OK.seg 1 (by kernel_rfl) ?_)))
  refine OK.dec ((o 3) = 9) (by kernel_rfl) (by kernel_rfl) (fun h19 => ?_) (fun h19 => ?_)
  ·
   refine OK.seg 6 (by kernel_rfl) (OK.nil ?_)
   refine X.ret ?_
   exact ⟨rfl, giv (r := .bool true) (by kernel_rfl) (bool_t (p := fmd o) (by simp only [fmd]; omega))⟩
  refine OK.seg 3 (by kernel_rfl) ?_
  refine OK.dec ((o 16) = 0) (by kernel_rfl) (by kernel_rfl) (fun h20 => ?_) (fun h20 => ?_)
  ·
   refine OK.seg 2 (by kernel_rfl) (OK.nil ?_)
   refine X.ret ?_
   exact ⟨rfl, giv (r := .bool true) (by kernel_rfl) (bool_t (p := fmd o) (by simp only [fmd]; omega))⟩
  refine OK.seg 2 (by kernel_rfl) (OK.nil ?_)
  refine X.ret ?_
  exact ⟨rfl, giv (r := .bool false) (by kernel_rfl) (bool_f (p := fmd o) (by simp only [fmd]; omega))⟩
 refine OK.seg 3 (by kernel_rfl) ?_
 refine OK.inl (fnn := Tryz.f141) (first := []) (cap := []) (args := [.list [I 4, I 5, I 6, I 7, I 8, I 9, I 10, I 11, I 12] false, .func (.func 142) [] [.ptr 0 0]]) rfl (by kernel_rfl) rfl (by kernel_rfl) (by kernel_rfl) (by kernel_rfl) (by kernel_rfl) (by kernel_rfl) Tryz.func141 rfl ?_
 refine X.seq (X.region (OK.seg 1 (by kernel_rfl) (OK.nil ?_)))
 refine X.seq (X.region (OK.seg 2 (by kernel_rfl) ?_))
 refine OK.inl (fnn := Tryz.f218) (first := []) (cap := []) (args := [.list [I 4, I 5, I 6, I 7, I 8, I 9, I 10, I 11, I 12] false, .func (.func 142) [] [.ptr 0 0]]) rfl (by kernel_rfl) rfl (by kernel_rfl) (by kernel_rfl) (by kernel_rfl) (by kernel_rfl) (by kernel_rfl) Tryz.func218 rfl ?_
 refine X.seq (X.region (OK.seg 1 (by kernel_rfl) (OK.nil ?_)))
 refine X.seq (X.seq (X.region (OK.seg 3 (by kernel_rfl) (OK.nil ?_))))
 refine X.block ?_
 refine X.at ([.list [I 4, I 5, I 6, I 7, I 8, I 9, I 10, I 11, I 12] false, .func (.func 142) [] [.ptr 0 0], undefA, undefA, I 0, undefA, .list [I 4, I 5, I 6, I 7, I 8, I 9, I 10, I 11, I 12] false, I 9, I 0] ++ List.replicate 10 undefA : List AV) [.box (cO o) false] (by kernel_rfl) (by kernel_rfl) ?_
 refine X.loop1 (by kernel_rfl) ?_
 refine X.seq (X.region (OK.seg 1 (by kernel_rfl) (OK.nil ?_)))
 refine X.seq (X.condT (by kernel_rfl) ?_)
 refine X.skip (X.seq (X.block (X.seq (X.region (OK.seg 2 (by kernel_rfl) (OK.nil ?_))))))
 refine X.seq (X.region (OK.seg 5 (by kernel_rfl) ?_))
 refine OK.inl (fnn := Tryz.f142) (first := []) (cap := [.ptr 0 0]) (args := [I 4]) rfl (by kernel_rfl) rfl (by kernel_rfl) (by kernel_rfl) (by kernel_rfl) (by kernel_rfl) (by kernel_rfl) Tryz.func142 rfl ?_
 refine X.seq (X.region (OK.seg 1 (by kernel_rfl) (OK.nil ?_)))
 refine X.seq (X.region (OK.seg 3 (by kernel_rfl) ?_))
 refine OK.ndec ((o 4) = 0) (by kernel_rfl) (by kernel_rfl) (fun h2 => ?_) (fun h2 => ?_)
 ·
  refine OK.seg 1 (by kernel_rfl) (OK.nil ?_)
  refine X.ret ?_
  refine ⟨rfl, [.bool true], by kernel_rfl, ?_⟩
  refine OK.nil ?_
  refine X.condT (by kernel_rfl) ?_
  refine X.seq (X.region (OK.seg 2 (by kernel_rfl) (OK.nil ?_)))
  refine X.ret ?_
  refine ⟨rfl, [I 0], by kernel_rfl, ?_⟩
  refine OK.seg 2 (by kernel_rfl) (OK.nil ?_)
  refine X.ret ?_
  refine ⟨rfl, [.bool true], by kernel_rfl, ?_⟩
  refine OK.seg 1 (by kernel_rfl) (OK.nil ?_)
  refine X.condT (by kernel_rfl) ?_
  refine X.seq (X.region (OK.seg 1 (by kernel_rfl) (OK.nil ?_)))
  refine X.ret ?_
  exact ⟨rfl, giv (r := .bool false) (by kernel_rfl) (bool_f (p := fmd o) (by simp only [fmd]; omega))⟩
 refine OK.seg 1 (by kernel_rfl) (OK.nil ?_)
 refine X.ret ?_
 refine ⟨rfl, [.bool false], by kernel_rfl, ?_⟩
 refine OK.nil ?_
 refine X.condF (by kernel_rfl) ?_
 refine X.skip (X.region (OK.seg 2 (by kernel_rfl) (OK.nil ?_)))
 show X _ _ _ _ _ _ _ _ _
 refine X.loop1 (by kernel_rfl) ?_
 refine X.seq (X.region (OK.seg 1 (by kernel_rfl) (OK.nil ?_)))
 refine X.seq (X.condT (by kernel_rfl) ?_)
 refine X.skip (X.seq (X.block (X.seq (X.region (OK.seg 2 (by kernel_rfl) (OK.nil ?_))))))
 refine X.seq (X.region (OK.seg 5 (by kernel_rfl) ?_))
 refine OK.inl (fnn := Tryz.f142) (first := []) (cap := [.ptr 0 0]) (args := [I 5]) rfl (by kernel_rfl) rfl (by kernel_rfl) (by kernel_rfl) (by kernel_rfl) (by kernel_rfl) (by kernel_rfl) Tryz.func142 rfl ?_
 refine X.seq (X.region (OK.seg 1 (by kernel_rfl) (OK.nil ?_)))
 refine X.seq (X.region (OK.seg 3 (by kernel_rfl) ?_))
 refine OK.ndec ((o 5) = 0) (by kernel_rfl) (by kernel_rfl) (fun h3 => ?_) (fun h3 => ?_)
 ·
  refine OK.seg 1 (by kernel_rfl) (OK.nil ?_)
  refine X.ret ?_
  refine ⟨rfl, [.bool true], by kernel_rfl, ?_⟩
  refine OK.nil ?_
  refine X.condT (by kernel_rfl) ?_
  refine X.seq (X.region (OK.seg 2 (by kernel_rfl) (OK.nil ?_)))
  refine X.ret ?_
  refine ⟨rfl, [I 1], by kernel_rfl, ?_⟩
  refine OK.seg 2 (by kernel_rfl) (OK.nil ?_)
  refine X.ret ?_
  refine ⟨rfl, [.bool true], by kernel_rfl, ?_⟩
  refine OK.seg 1 (by kernel_rfl) (OK.nil ?_)
  refine X.condT (by kernel_rfl) ?_
  refine X.seq (X.region (OK.seg 1 (by kernel_rfl) (OK.nil ?_)))
  refine X.ret ?_
  exact ⟨rfl, giv (r := .bool false) (by kernel_rfl) (bool_f (p := fmd o) (by simp only [fmd]; omega))⟩
 refine OK.seg 1 (by kernel_rfl) (OK.nil ?_)
 refine X.ret ?_
 refine ⟨rfl, [.bool false], by kernel_rfl, ?_⟩
 refine OK.nil ?_
 refine X.condF (by kernel_rfl) ?_
 refine X.skip (X.region (OK.seg 2 (by kernel_rfl) (OK.nil ?_)))
 show X _ _ _ _ _ _ _ _ _
 refine X.loop1 (by kernel_rfl) ?_
 refine X.seq (X.region (OK.seg 1 (by kernel_rfl) (OK.nil ?_)))
 refine X.seq (X.condT (by kernel_rfl) ?_)
 refine X.skip (X.seq (X.block (X.seq (X.region (OK.seg 2 (by kernel_rfl) (OK.nil ?_))))))
 refine X.seq (X.region (OK.seg 5 (by kernel_rfl) ?_))
 refine OK.inl (fnn := Tryz.f142) (first := []) (cap := [.ptr 0 0]) (args := [I 6]) rfl (by kernel_rfl) rfl (by kernel_rfl) (by kernel_rfl) (by kernel_rfl) (by kernel_rfl) (by kernel_rfl) Tryz.func142 rfl ?_
 refine X.seq (X.region (OK.seg 1 (by kernel_rfl) (OK.nil ?_)))
 refine X.seq (X.region (OK.seg 3 (by kernel_rfl) ?_))
 refine OK.ndec ((o 6) = 0) (by kernel_rfl) (by kernel_rfl) (fun h4 => ?_) (fun h4 => ?_)
 ·
  refine OK.seg 1 (by kernel_rfl) (OK.nil ?_)
  refine X.ret ?_
  refine ⟨rfl, [.bool true], by kernel_rfl, ?_⟩
  refine OK.nil ?_
  refine X.condT (by kernel_rfl) ?_
  refine X.seq (X.region (OK.seg 2 (by kernel_rfl) (OK.nil ?_)))
  refine X.ret ?_
  refine ⟨rfl, [I 2], by kernel_rfl, ?_⟩
  refine OK.seg 2 (by kernel_rfl) (OK.nil ?_)
  refine X.ret ?_
  refine ⟨rfl, [.bool true], by kernel_rfl, ?_⟩
  refine OK.seg 1 (by kernel_rfl) (OK.nil ?_)
  refine X.condT (by kernel_rfl) ?_
  refine X.seq (X.region (OK.seg 1 (by kernel_rfl) (OK.nil ?_)))
  refine X.ret ?_
  exact ⟨rfl, giv (r := .bool false) (by kernel_rfl) (bool_f (p := fmd o) (by simp only [fmd]; omega))⟩
 refine OK.seg 1 (by kernel_rfl) (OK.nil ?_)
 refine X.ret ?_
 refine ⟨rfl, [.bool false], by kernel_rfl, ?_⟩
 refine OK.nil ?_
 refine X.condF (by kernel_rfl) ?_
 refine X.skip (X.region (OK.seg 2 (by kernel_rfl) (OK.nil ?_)))
 show X _ _ _ _ _ _ _ _ _
 refine X.loop1 (by kernel_rfl) ?_
 refine X.seq (X.region (OK.seg 1 (by kernel_rfl) (OK.nil ?_)))
 refine X.seq (X.condT (by kernel_rfl) ?_)
 refine X.skip (X.seq (X.block (X.seq (X.region (OK.seg 2 (by kernel_rfl) (OK.nil ?_))))))
 refine X.seq (X.region (OK.seg 5 (by kernel_rfl) ?_))
 refine OK.inl (fnn := Tryz.f142) (first := []) (cap := [.ptr 0 0]) (args := [I 7]) rfl (by kernel_rfl) rfl (by kernel_rfl) (by kernel_rfl) (by kernel_rfl) (by kernel_rfl) (by kernel_rfl) Tryz.func142 rfl ?_
 refine X.seq (X.region (OK.seg 1 (by kernel_rfl) (OK.nil ?_)))
 refine X.seq (X.region (OK.seg 3 (by kernel_rfl) ?_))
 refine OK.ndec ((o 7) = 0) (by kernel_rfl) (by kernel_rfl) (fun h5 => ?_) (fun h5 => ?_)
 ·
  refine OK.seg 1 (by kernel_rfl) (OK.nil ?_)
  refine X.ret ?_
  refine ⟨rfl, [.bool true], by kernel_rfl, ?_⟩
  refine OK.nil ?_
  refine X.condT (by kernel_rfl) ?_
  refine X.seq (X.region (OK.seg 2 (by kernel_rfl) (OK.nil ?_)))
  refine X.ret ?_
  refine ⟨rfl, [I 3], by kernel_rfl, ?_⟩
  refine OK.seg 2 (by kernel_rfl) (OK.nil ?_)
  refine X.ret ?_
  refine ⟨rfl, [.bool true], by kernel_rfl, ?_⟩
  refine OK.seg 1 (by kernel_rfl) (OK.nil ?_)
  refine X.condT (by kernel_rfl) ?_
  refine X.seq (X.region (OK.seg 1 (by kernel_rfl) (OK.nil ?_)))
  refine X.ret ?_
  exact ⟨rfl, giv (r := .bool false) (by kernel_rfl) (bool_f (p := fmd o) (by simp only [fmd]; omega))⟩
 refine OK.seg 1 (by kernel_rfl) (OK.nil ?_)
 refine X.ret ?_
 refine ⟨rfl, [.bool false], by kernel_rfl, ?_⟩
 refine OK.nil ?_
 refine X.condF (by kernel_rfl) ?_
 refine X.skip (X.region (OK.seg 2 (by kernel_rfl) (OK.nil ?_)))
 show X _ _ _ _ _ _ _ _ _
 refine X.loop1 (by kernel_rfl) ?_
 refine X.seq (X.region (OK.seg 1 (by kernel_rfl) (OK.nil ?_)))
 refine X.seq (X.condT (by kernel_rfl) ?_)
 refine X.skip (X.seq (X.block (X.seq (X.region (OK.seg 2 (by kernel_rfl) (OK.nil ?_))))))
 refine X.seq (X.region (OK.seg 5 (by kernel_rfl) ?_))
 refine OK.inl (fnn := Tryz.f142) (first := []) (cap := [.ptr 0 0]) (args := [I 8]) rfl (by kernel_rfl) rfl (by kernel_rfl) (by kernel_rfl) (by kernel_rfl) (by kernel_rfl) (by kernel_rfl) Tryz.func142 rfl ?_
 refine X.seq (X.region (OK.seg 1 (by kernel_rfl) (OK.nil ?_)))
 refine X.seq (X.region (OK.seg 3 (by kernel_rfl) ?_))
 refine OK.ndec ((o 8) = 0) (by kernel_rfl) (by kernel_rfl) (fun h6 => ?_) (fun h6 => ?_)
 ·
  refine OK.seg 1 (by kernel_rfl) (OK.nil ?_)
  refine X.ret ?_
  refine ⟨rfl, [.bool true], by kernel_rfl, ?_⟩
  refine OK.nil ?_
  refine X.condT (by kernel_rfl) ?_
  refine X.seq (X.region (OK.seg 2 (by kernel_rfl) (OK.nil ?_)))
  refine X.ret ?_
  refine ⟨rfl, [I 4], by kernel_rfl, ?_⟩
  refine OK.seg 2 (by kernel_rfl) (OK.nil ?_)
  refine X.ret ?_
  refine ⟨rfl, [.bool true], by kernel_rfl, ?_⟩
  refine OK.seg 1 (by kernel_rfl) (OK.nil ?_)
  refine X.condT (by kernel_rfl) ?_
  refine X.seq (X.region (OK.seg 1 (by kernel_rfl) (OK.nil ?_)))
  refine X.ret ?_
  exact ⟨rfl, giv (r := .bool false) (by kernel_rfl) (bool_f (p := fmd o) (by simp only [fmd]; omega))⟩
 refine OK.seg 1 (by kernel_rfl) (OK.nil ?_)
 refine X.ret ?_
 refine ⟨rfl, [.bool false], by kernel_rfl, ?_⟩
 refine OK.nil ?_
 refine X.condF (by kernel_rfl) ?_
 refine X.skip (X.region (OK.seg 2 (by kernel_rfl) (OK.nil ?_)))
 show X _ _ _ _ _ _ _ _ _
 refine X.loop1 (by kernel_rfl) ?_
 refine X.seq (X.region (OK.seg 1 (by kernel_rfl) (OK.nil ?_)))
 refine X.seq (X.condT (by kernel_rfl) ?_)
 refine X.skip (X.seq (X.block (X.seq (X.region (OK.seg 2 (by kernel_rfl) (OK.nil ?_))))))
 refine X.seq (X.region (OK.seg 5 (by kernel_rfl) ?_))
 refine OK.inl (fnn := Tryz.f142) (first := []) (cap := [.ptr 0 0]) (args := [I 9]) rfl (by kernel_rfl) rfl (by kernel_rfl) (by kernel_rfl) (by kernel_rfl) (by kernel_rfl) (by kernel_rfl) Tryz.func142 rfl ?_
 refine X.seq (X.region (OK.seg 1 (by kernel_rfl) (OK.nil ?_)))
 refine X.seq (X.region (OK.seg 3 (by kernel_rfl) ?_))
 refine OK.ndec ((o 9) = 0) (by kernel_rfl) (by kernel_rfl) (fun h7 => ?_) (fun h7 => ?_)
 ·
  refine OK.seg 1 (by kernel_rfl) (OK.nil ?_)
  refine X.ret ?_
  refine ⟨rfl, [.bool true], by kernel_rfl, ?_⟩
  refine OK.nil ?_
  refine X.condT (by kernel_rfl) ?_
  refine X.seq (X.region (OK.seg 2 (by kernel_rfl) (OK.nil ?_)))
  refine X.ret ?_
  refine ⟨rfl, [I 5], by kernel_rfl, ?_⟩
  refine OK.seg 2 (by kernel_rfl) (OK.nil ?_)
  refine X.ret ?_
  refine ⟨rfl, [.bool true], by kernel_rfl, ?_⟩
  refine OK.seg 1 (by kernel_rfl) (OK.nil ?_)
  refine X.condT (by kernel_rfl) ?_
  refine X.seq (X.region (OK.seg 1 (by kernel_rfl) (OK.nil ?_)))
  refine X.ret ?_
  exact ⟨rfl, giv (r := .bool false) (by kernel_rfl) (bool_f (p := fmd o) (by simp only [fmd]; omega))⟩
 refine OK.seg 1 (by kernel_rfl) (OK.nil ?_)
 refine X.ret ?_
 refine ⟨rfl, [.bool false], by kernel_rfl, ?_⟩
 refine OK.nil ?_
 refine X.condF (by kernel_rfl) ?_
 refine X.skip (X.region (OK.seg 2 (by kernel_rfl) (OK.nil ?_)))
 show X _ _ _ _ _ _ _ _ _
 refine X.loop1 (by kernel_rfl) ?_
 refine X.seq (X.region (OK.seg 1 (by kernel_rfl) (OK.nil ?_)))
 refine X.seq (X.condT (by kernel_rfl) ?_)
 refine X.skip (X.seq (X.block (X.seq (X.region (OK.seg 2 (by kernel_rfl) (OK.nil ?_))))))
 refine X.seq (X.region (OK.seg 5 (by kernel_rfl) ?_))
 refine OK.inl (fnn := Tryz.f142) (first := []) (cap := [.ptr 0 0]) (args := [I 10]) rfl (by kernel_rfl) rfl (by kernel_rfl) (by kernel_rfl) (by kernel_rfl) (by kernel_rfl) (by kernel_rfl) Tryz.func142 rfl ?_
 refine X.seq (X.region (OK.seg 1 (by kernel_rfl) (OK.nil ?_)))
 refine X.seq (X.region (OK.seg 3 (by kernel_rfl) ?_))
 refine OK.ndec ((o 10) = 0) (by kernel_rfl) (by kernel_rfl) (fun h8 => ?_) (fun h8 => ?_)
 ·
  refine OK.seg 1 (by kernel_rfl) (OK.nil ?_)
  refine X.ret ?_
  refine ⟨rfl, [.bool true], by kernel_rfl, ?_⟩
  refine OK.nil ?_
  refine X.condT (by kernel_rfl) ?_
  refine X.seq (X.region (OK.seg 2 (by kernel_rfl) (OK.nil ?_)))
  refine X.ret ?_
  refine ⟨rfl, [I 6], by kernel_rfl, ?_⟩
  refine OK.seg 2 (by kernel_rfl) (OK.nil ?_)
  refine X.ret ?_
  refine ⟨rfl, [.bool true], by kernel_rfl, ?_⟩
  refine OK.seg 1 (by kernel_rfl) (OK.nil ?_)
  refine X.condT (by kernel_rfl) ?_
  refine X.seq (X.region (OK.seg 1 (by kernel_rfl) (OK.nil ?_)))
  refine X.ret ?_
  exact ⟨rfl, giv (r := .bool false) (by kernel_rfl) (bool_f (p := fmd o) (by simp only [fmd]; omega))⟩
 refine OK.seg 1 (by kernel_rfl) (OK.nil ?_)
 refine X.ret ?_
 refine ⟨rfl, [.bool false], by kernel_rfl, ?_⟩
 refine OK.nil ?_
 refine X.condF (by kernel_rfl) ?_
 refine X.skip (X.region (OK.seg 2 (by kernel_rfl) (OK.nil ?_)))
 show X _ _ _ _ _ _ _ _ _
 refine X.loop1 (by kernel_rfl) ?_
 refine X.seq (X.region (OK.seg 1 (by kernel_rfl) (OK.nil ?_)))
 refine X.seq (X.condT (by kernel_rfl) ?_)
 refine X.skip (X.seq (X.block (X.seq (X.region (OK.seg 2 (by kernel_rfl) (OK.nil ?_))))))
 refine X.seq (X.region (OK.seg 5 (by kernel_rfl) ?_))
 refine OK.inl (fnn := Tryz.f142) (first := []) (cap := [.ptr 0 0]) (args := [I 11]) rfl (by kernel_rfl) rfl (by kernel_rfl) (by kernel_rfl) (by kernel_rfl) (by kernel_rfl) (by kernel_rfl) Tryz.func142 rfl ?_
 refine X.seq (X.region (OK.seg 1 (by kernel_rfl) (OK.nil ?_)))
 refine X.seq (X.region (OK.seg 3 (by kernel_rfl) ?_))
 refine OK.ndec ((o 11) = 0) (by kernel_rfl) (by kernel_rfl) (fun h9 => ?_) (fun h9 => ?_)
 ·
  refine OK.seg 1 (by kernel_rfl) (OK.nil ?_)
  refine X.ret ?_
  refine ⟨rfl, [.bool true], by kernel_rfl, ?_⟩
  refine OK.nil ?_
  refine X.condT (by kernel_rfl) ?_
  refine X.seq (X.region (OK.seg 2 (by kernel_rfl) (OK.nil ?_)))
  refine X.ret ?_
  refine ⟨rfl, [I 7], by kernel_rfl, ?_⟩
  refine OK.seg 2 (by kernel_rfl) (OK.nil ?_)
  refine X.ret ?_
  refine ⟨rfl, [.bool true], by kernel_rfl, ?_⟩
  refine OK.seg 1 (by kernel_rfl) (OK.nil ?_)
  refine X.condT (by kernel_rfl) ?_
  refine X.seq (X.region (OK.seg 1 (by kernel_rfl) (OK.nil ?_)))
  refine X.ret ?_
  exact ⟨rfl, giv (r := .bool false) (by kernel_rfl) (bool_f (p := fmd o) (by simp only [fmd]; omega))⟩
 refine OK.seg 1 (by kernel_rfl) (OK.nil ?_)
 refine X.ret ?_
 refine ⟨rfl, [.bool false], by kernel_rfl, ?_⟩
 refine OK.nil ?_
 refine X.condF (by kernel_rfl) ?_
 refine X.skip (X.region (OK.seg 2 (by kernel_rfl) (OK.nil ?_)))
 show X _ _ _ _ _ _ _ _ _
 refine X.loop1 (by kernel_rfl) ?_
 refine X.seq (X.region (OK.seg 1 (by kernel_rfl) (OK.nil ?_)))
 refine X.seq (X.condT (by kernel_rfl) ?_)
 refine X.skip (X.seq (X.block (X.seq (X.region (OK.seg 2 (by kernel_rfl) (OK.nil ?_))))))
 refine X.seq (X.region (OK.seg 5 (by kernel_rfl) ?_))
 refine OK.inl (fnn := Tryz.f142) (first := []) (cap := [.ptr 0 0]) (args := [I 12]) rfl (by kernel_rfl) rfl (by kernel_rfl) (by kernel_rfl) (by kernel_rfl) (by kernel_rfl) (by kernel_rfl) Tryz.func142 rfl ?_
 refine X.seq (X.region (OK.seg 1 (by kernel_rfl) (OK.nil ?_)))
 refine X.seq (X.region (OK.seg 3 (by kernel_rfl) ?_))
 refine OK.ndec ((o 12) = 0) (by kernel_rfl) (by kernel_rfl) (fun h10 => ?_) (fun h10 => ?_)
 ·
  refine OK.seg 1 (by kernel_rfl) (OK.nil ?_)
  refine X.ret ?_
  refine ⟨rfl, [.bool true], by kernel_rfl, ?_⟩
  refine OK.nil ?_
  refine X.condT (by kernel_rfl) ?_
  refine X.seq (X.region (OK.seg 2 (by kernel_rfl) (OK.nil ?_)))
  refine X.ret ?_
  refine ⟨rfl, [I 8], by kernel_rfl, ?_⟩
  refine OK.seg 2 (by kernel_rfl) (OK.nil ?_)
  refine X.ret ?_
  refine ⟨rfl, [.bool true], by kernel_rfl, ?_⟩
  refine OK.seg 1 (by kernel_rfl) (OK.nil ?_)
  refine X.condT (by kernel_rfl) ?_
  refine X.seq (X.region (OK.seg 1 (by kernel_rfl) (OK.nil ?_)))
  refine X.ret ?_
  exact ⟨rfl, giv (r := .bool false) (by kernel_rfl) (bool_f (p := fmd o) (by simp only [fmd]; omega))⟩
 refine OK.seg 1 (by kernel_rfl) (OK.nil ?_)
 refine X.ret ?_
 refine ⟨rfl, [.bool false], by kernel_rfl, ?_⟩
 refine OK.nil ?_
 refine X.condF (by kernel_rfl) ?_
 refine X.skip (X.region (OK.seg 2 (by kernel_rfl) (OK.nil ?_)))
 show X _ _ _ _ _ _ _ _ _
 refine X.loop1 (by kernel_rfl) ?_
 refine X.seq (X.region (OK.seg 1 (by kernel_rfl) (OK.nil ?_)))
 refine X.seq (X.condF (by kernel_rfl) ?_)
 refine X.exit ?_
 show X _ _ _ _ _ _ _ _ _
 refine X.seq (X.region (OK.seg 1 (by kernel_rfl) (OK.nil ?_)))
 refine X.ret ?_
 refine ⟨rfl, [I (-1)], by kernel_rfl, ?_⟩
 refine OK.seg 2 (by kernel_rfl) (OK.nil ?_)
 refine X.ret ?_
 refine ⟨rfl, [.bool false], by kernel_rfl, ?_⟩
 refine OK.seg 1 (by kernel_rfl) (OK.nil ?_)
 refine X.condF (by kernel_rfl) ?_
 refine X.skip (X.seq (X.seq (X.region (OK.seg 1 (by kernel_rfl) ?_))))
 refine OK.dec ((o 3) < 8) (by kernel_rfl) (by kernel_rfl) (fun h11 => ?_) (fun h11 => ?_)
 rotate_left
 ·
  refine OK.seg 7 (by kernel_rfl) (OK.nil ?_)
  refine X.condF (by kernel_rfl) ?_
  refine X.skip (X.seq (X.region (OK.seg 1 (by kernel_rfl) ?_)))
  refine OK.dec ((o 3) = 9) (by kernel_rfl) (by kernel_rfl) (fun h15 => ?_) (fun h15 => ?_)
  ·
   refine OK.seg 6 (by kernel_rfl) (OK.nil ?_)
   refine X.ret ?_
   exact ⟨rfl, giv (r := .bool true) (by kernel_rfl) (bool_t (p := fmd o) (by simp only [fmd]; omega))⟩
  refine OK.seg 3 (by kernel_rfl) ?_
  refine OK.dec ((o 16) = 0) (by kernel_rfl) (by kernel_rfl) (fun h16 => ?_) (fun h16 => ?_)
  ·
   refine OK.seg 2 (by kernel_rfl) (OK.nil ?_)
   refine X.ret ?_
   exact ⟨rfl, giv (r := .bool true) (by kernel_rfl) (bool_t (p := fmd o) (by simp only [fmd]; omega))⟩
  refine OK.seg 2 (by kernel_rfl) (OK.nil ?_)
  refine X.ret ?_
  exact ⟨rfl, giv (r := .bool false) (by kernel_rfl) (bool_f (p := fmd o) (by simp only [fmd]; omega))⟩
 refine OK.seg 5 (by kernel_rfl) ?_
 refine OK.ndec ((o 2) = (o 1)) (by kernel_rfl) (by kernel_rfl) (fun h12 => ?_) (fun h12 => ?_)
 ·
  refine OK.seg 1 (by kernel_rfl) (OK.nil ?_)
  refine X.condT (by kernel_rfl) ?_
  refine X.seq (X.region (OK.seg 1 (by kernel_rfl) (OK.nil ?_)))
  refine X.ret ?_
  exact ⟨rfl, giv (r := .bool false) (by kernel_rfl) (bool_f (p := fmd o) (by simp only [fmd]; omega))⟩
 refine OK.seg 1 (by kernel_rfl) (OK.nil ?_)
 refine X.condF (by kernel_rfl) ?_
 refine X.skip (X.seq (X.region (OK.seg 1 (by kernel_rfl) ?_)))
 refine OK.dec ((o 3) = 9) (by kernel_rfl) (by kernel_rfl) (fun h13 => ?_) (fun h13 => ?_)
 ·
  refine OK.seg 6 (by kernel_rfl) (OK.nil ?_)
  refine X.ret ?_
  exact ⟨rfl, giv (r := .bool true) (by kernel_rfl) (bool_t (p := fmd o) (by simp only [fmd]; omega))⟩
 refine OK.seg 3 (by kernel_rfl) ?_
 refine OK.dec ((o 16) = 0) (by kernel_rfl) (by kernel_rfl) (fun h14 => ?_) (fun h14 => ?_)
 ·
  refine OK.seg 2 (by kernel_rfl) (OK.nil ?_)
  refine X.ret ?_
  exact ⟨rfl, giv (r := .bool true) (by kernel_rfl) (bool_t (p := fmd o) (by simp only [fmd]; omega))⟩
 refine OK.seg 2 (by kernel_rfl) (OK.nil ?_)
 refine X.ret ?_
 exact ⟨rfl, giv (r := .bool false) (by kernel_rfl) (bool_f (p := fmd o) (by simp only [fmd]; omega))⟩
theorem in_w : ∀ k (n a b : Int) σ, 60 ≤ k → readW (callW Tryz.prog (exec Tryz.prog cfg k)) 90 [I n, I a, I b] σ = some (.bool (decide (n ≥ a ∧ n ≤ b)), σ) := by
 intro k n a b σ hk
 obtain ⟨k, rfl⟩ : ∃ k', k = k' + 60 := ⟨k - 60, by omega⟩
 refine reader_of Tryz.func90 rfl (by simp only [AV.frees, AV.free, fr_I, fr_E, fr_cO, fr_cL, fr_cS, Bool.and_self]) ?_
 refine X.seq (X.region (OK.seg 1 (by kernel_rfl) (OK.nil ?_)))
 refine X.seq (X.region (OK.seg 2 (by kernel_rfl) ?_))
 refine OK.dec (n ≥ a) (by kernel_rfl) (by kernel_rfl) (fun h1 => ?_) (fun h1 => ?_)
 rotate_left
 ·
  refine OK.seg 6 (by kernel_rfl) (OK.nil ?_)
  refine X.ret ?_
  exact ⟨rfl, giv (r := .bool false) (by kernel_rfl) (bool_f (p := n ≥ a ∧ n ≤ b) (by omega))⟩
 refine OK.seg 3 (by kernel_rfl) ?_
 refine OK.dec (n ≤ b) (by kernel_rfl) (by kernel_rfl) (fun h2 => ?_) (fun h2 => ?_)
 ·
  refine OK.seg 2 (by kernel_rfl) (OK.nil ?_)
  refine X.ret ?_
  exact ⟨rfl, giv (r := .bool true) (by kernel_rfl) (bool_t (p := n ≥ a ∧ n ≤ b) (by omega))⟩
 refine OK.seg 2 (by kernel_rfl) (OK.nil ?_)
 refine X.ret ?_
 exact ⟨rfl, giv (r := .bool false) (by kernel_rfl) (bool_f (p := n ≥ a ∧ n ≤ b) (by omega))⟩
theorem object_w : ∀ k (o : Ob) (m : Int) σ, 120 ≤ k → readW (callW Tryz.prog (exec Tryz.prog cfg k)) 89 [.agg (cO o), I m] σ = some (.bool (decide (okO o m)), σ) := by
 intro k o m σ hk
 obtain ⟨k, rfl⟩ : ∃ k', k = k' + 60 := ⟨k - 60, by omega⟩
 refine reader_of Tryz.func89 rfl (by simp only [AV.frees, AV.free, fr_I, fr_E, fr_cO, fr_cL, fr_cS, Bool.and_self]) ?_
 refine X.seq (X.region (OK.seg 2 (by kernel_rfl) (OK.nil ?_)))
 refine X.seq (X.region (OK.seg 2 (by kernel_rfl) ?_))
 refine OK.rdP [I (o 0), I 0, I 119] [I (o 0), I 0, I 119] ((o 0) ≥ 0 ∧ (o 0) ≤ 119) rfl (by kernel_rfl) rfl (by kernel_rfl) (by kernel_rfl) (by kernel_rfl) (by kernel_rfl) (by kernel_rfl) (in_w _ _ _ _ _ (by omega)) (fun h1 => ?_) (fun h1 => ?_)
 rotate_left
 ·
  refine OK.seg 51 (by kernel_rfl) (OK.nil ?_)
  refine X.seq (X.region (OK.seg 40 (by kernel_rfl) (OK.nil ?_)))
  refine X.ret ?_
  exact ⟨rfl, giv (r := .bool false) (by kernel_rfl) (bool_f (p := okO o m) (by simp only [okO]; omega))⟩
 refine OK.seg 3 (by kernel_rfl) ?_
 refine OK.rdP [I (o 1), I 0, I 1] [I (o 1), I 0, I 1] ((o 1) ≥ 0 ∧ (o 1) ≤ 1) rfl (by kernel_rfl) rfl (by kernel_rfl) (by kernel_rfl) (by kernel_rfl) (by kernel_rfl) (by kernel_rfl) (in_w _ _ _ _ _ (by omega)) (fun h2 => ?_) (fun h2 => ?_)
 rotate_left
 ·
  refine OK.seg 47 (by kernel_rfl) (OK.nil ?_)
  refine X.seq (X.region (OK.seg 40 (by kernel_rfl) (OK.nil ?_)))
  refine X.ret ?_
  exact ⟨rfl, giv (r := .bool false) (by kernel_rfl) (bool_f (p := okO o m) (by simp only [okO]; omega))⟩
 refine OK.seg 4 (by kernel_rfl) ?_
 refine OK.rdP [I (o 2), I 0, I 1] [I (o 2), I 0, I 1] ((o 2) ≥ 0 ∧ (o 2) ≤ 1) rfl (by kernel_rfl) rfl (by kernel_rfl) (by kernel_rfl) (by kernel_rfl) (by kernel_rfl) (by kernel_rfl) (in_w _ _ _ _ _ (by omega)) (fun h3 => ?_) (fun h3 => ?_)
 rotate_left
 ·
  refine OK.seg 42 (by kernel_rfl) (OK.nil ?_)
  refine X.seq (X.region (OK.seg 40 (by kernel_rfl) (OK.nil ?_)))
  refine X.ret ?_
  exact ⟨rfl, giv (r := .bool false) (by kernel_rfl) (bool_f (p := okO o m) (by simp only [okO]; omega))⟩
 refine OK.seg 4 (by kernel_rfl) ?_
 refine OK.rdP [I (o 3), I 0, I 10] [I (o 3), I 0, I 10] ((o 3) ≥ 0 ∧ (o 3) ≤ 10) rfl (by kernel_rfl) rfl (by kernel_rfl) (by kernel_rfl) (by kernel_rfl) (by kernel_rfl) (by kernel_rfl) (in_w _ _ _ _ _ (by omega)) (fun h4 => ?_) (fun h4 => ?_)
 rotate_left
 ·
  refine OK.seg 37 (by kernel_rfl) (OK.nil ?_)
  refine X.seq (X.region (OK.seg 40 (by kernel_rfl) (OK.nil ?_)))
  refine X.ret ?_
  exact ⟨rfl, giv (r := .bool false) (by kernel_rfl) (bool_f (p := okO o m) (by simp only [okO]; omega))⟩
 refine OK.seg 4 (by kernel_rfl) ?_
 refine OK.rdP [I (o 4), I 0, I 1] [I (o 4), I 0, I 1] ((o 4) ≥ 0 ∧ (o 4) ≤ 1) rfl (by kernel_rfl) rfl (by kernel_rfl) (by kernel_rfl) (by kernel_rfl) (by kernel_rfl) (by kernel_rfl) (in_w _ _ _ _ _ (by omega)) (fun h5 => ?_) (fun h5 => ?_)
 rotate_left
 ·
  refine OK.seg 32 (by kernel_rfl) (OK.nil ?_)
  refine X.seq (X.region (OK.seg 40 (by kernel_rfl) (OK.nil ?_)))
  refine X.ret ?_
  exact ⟨rfl, giv (r := .bool false) (by kernel_rfl) (bool_f (p := okO o m) (by simp only [okO]; omega))⟩
 refine OK.seg 4 (by kernel_rfl) ?_
 refine OK.rdP [I (o 5), I 0, I 1] [I (o 5), I 0, I 1] ((o 5) ≥ 0 ∧ (o 5) ≤ 1) rfl (by kernel_rfl) rfl (by kernel_rfl) (by kernel_rfl) (by kernel_rfl) (by kernel_rfl) (by kernel_rfl) (in_w _ _ _ _ _ (by omega)) (fun h6 => ?_) (fun h6 => ?_)
 rotate_left
 ·
  refine OK.seg 27 (by kernel_rfl) (OK.nil ?_)
  refine X.seq (X.region (OK.seg 40 (by kernel_rfl) (OK.nil ?_)))
  refine X.ret ?_
  exact ⟨rfl, giv (r := .bool false) (by kernel_rfl) (bool_f (p := okO o m) (by simp only [okO]; omega))⟩
 refine OK.seg 4 (by kernel_rfl) ?_
 refine OK.rdP [I (o 11), I 0, I 1] [I (o 11), I 0, I 1] ((o 11) ≥ 0 ∧ (o 11) ≤ 1) rfl (by kernel_rfl) rfl (by kernel_rfl) (by kernel_rfl) (by kernel_rfl) (by kernel_rfl) (by kernel_rfl) (in_w _ _ _ _ _ (by omega)) (fun h7 => ?_) (fun h7 => ?_)
 rotate_left
 ·
  refine OK.seg 22 (by kernel_rfl) (OK.nil ?_)
  refine X.seq (X.region (OK.seg 40 (by kernel_rfl) (OK.nil ?_)))
  refine X.ret ?_
  exact ⟨rfl, giv (r := .bool false) (by kernel_rfl) (bool_f (p := okO o m) (by simp only [okO]; omega))⟩
 refine OK.seg 4 (by kernel_rfl) ?_
 refine OK.rdP [I (o 13), I 0, I 2] [I (o 13), I 0, I 2] ((o 13) ≥ 0 ∧ (o 13) ≤ 2) rfl (by kernel_rfl) rfl (by kernel_rfl) (by kernel_rfl) (by kernel_rfl) (by kernel_rfl) (by kernel_rfl) (in_w _ _ _ _ _ (by omega)) (fun h8 => ?_) (fun h8 => ?_)
 rotate_left
 ·
  refine OK.seg 17 (by kernel_rfl) (OK.nil ?_)
  refine X.seq (X.region (OK.seg 40 (by kernel_rfl) (OK.nil ?_)))
  refine X.ret ?_
  exact ⟨rfl, giv (r := .bool false) (by kernel_rfl) (bool_f (p := okO o m) (by simp only [okO]; omega))⟩
 refine OK.seg 4 (by kernel_rfl) ?_
 refine OK.rdP [I (o 17), I 0, I 3] [I (o 17), I 0, I 3] ((o 17) ≥ 0 ∧ (o 17) ≤ 3) rfl (by kernel_rfl) rfl (by kernel_rfl) (by kernel_rfl) (by kernel_rfl) (by kernel_rfl) (by kernel_rfl) (in_w _ _ _ _ _ (by omega)) (fun h9 => ?_) (fun h9 => ?_)
 rotate_left
 ·
  refine OK.seg 12 (by kernel_rfl) (OK.nil ?_)
  refine X.seq (X.region (OK.seg 40 (by kernel_rfl) (OK.nil ?_)))
  refine X.ret ?_
  exact ⟨rfl, giv (r := .bool false) (by kernel_rfl) (bool_f (p := okO o m) (by simp only [okO]; omega))⟩
 refine OK.seg 4 (by kernel_rfl) ?_
 refine OK.rdP [I (o 10), I 0, I 255] [I (o 10), I 0, I 255] ((o 10) ≥ 0 ∧ (o 10) ≤ 255) rfl (by kernel_rfl) rfl (by kernel_rfl) (by kernel_rfl) (by kernel_rfl) (by kernel_rfl) (by kernel_rfl) (in_w _ _ _ _ _ (by omega)) (fun h10 => ?_) (fun h10 => ?_)
 rotate_left
 ·
  refine OK.seg 7 (by kernel_rfl) (OK.nil ?_)
  refine X.seq (X.region (OK.seg 40 (by kernel_rfl) (OK.nil ?_)))
  refine X.ret ?_
  exact ⟨rfl, giv (r := .bool false) (by kernel_rfl) (bool_f (p := okO o m) (by simp only [okO]; omega))⟩
 refine OK.seg 4 (by kernel_rfl) ?_
 refine OK.rdP [I (o 14), I 0, I 3] [I (o 14), I 0, I 3] ((o 14) ≥ 0 ∧ (o 14) ≤ 3) rfl (by kernel_rfl) rfl (by kernel_rfl) (by kernel_rfl) (by kernel_rfl) (by kernel_rfl) (by kernel_rfl) (in_w _ _ _ _ _ (by omega)) (fun h11 => ?_) (fun h11 => ?_)
 rotate_left
 ·
  refine OK.seg 2 (by kernel_rfl) (OK.nil ?_)
  refine X.seq (X.region (OK.seg 40 (by kernel_rfl) (OK.nil ?_)))
  refine X.ret ?_
  exact ⟨rfl, giv (r := .bool false) (by kernel_rfl) (bool_f (p := okO o m) (by simp only [okO]; omega))⟩
 refine OK.seg 2 (by kernel_rfl) (OK.nil ?_)
 refine X.seq (X.region (OK.seg 4 (by kernel_rfl) ?_))
 refine OK.rdP [I (o 6), I 0, I 1073741824] [I (o 6), I 0, I 1073741824] ((o 6) ≥ 0 ∧ (o 6) ≤ 1073741824) rfl (by kernel_rfl) rfl (by kernel_rfl) (by kernel_rfl) (by kernel_rfl) (by kernel_rfl) (by kernel_rfl) (in_w _ _ _ _ _ (by omega)) (fun h12 => ?_) (fun h12 => ?_)
 rotate_left
 ·
  refine OK.seg 35 (by kernel_rfl) (OK.nil ?_)
  refine X.ret ?_
  exact ⟨rfl, giv (r := .bool false) (by kernel_rfl) (bool_f (p := okO o m) (by simp only [okO]; omega))⟩
 refine OK.seg 4 (by kernel_rfl) ?_
 refine OK.rdP [I (o 7), I 0, I 1073741824] [I (o 7), I 0, I 1073741824] ((o 7) ≥ 0 ∧ (o 7) ≤ 1073741824) rfl (by kernel_rfl) rfl (by kernel_rfl) (by kernel_rfl) (by kernel_rfl) (by kernel_rfl) (by kernel_rfl) (in_w _ _ _ _ _ (by omega)) (fun h13 => ?_) (fun h13 => ?_)
 rotate_left
 ·
  refine OK.seg 30 (by kernel_rfl) (OK.nil ?_)
  refine X.ret ?_
  exact ⟨rfl, giv (r := .bool false) (by kernel_rfl) (bool_f (p := okO o m) (by simp only [okO]; omega))⟩
 refine OK.seg 4 (by kernel_rfl) ?_
 refine OK.rdP [I (o 8), I (-1073741824), I 1073741824] [I (o 8), I (-1073741824), I 1073741824] ((o 8) ≥ (-1073741824) ∧ (o 8) ≤ 1073741824) rfl (by kernel_rfl) rfl (by kernel_rfl) (by kernel_rfl) (by kernel_rfl) (by kernel_rfl) (by kernel_rfl) (in_w _ _ _ _ _ (by omega)) (fun h14 => ?_) (fun h14 => ?_)
 rotate_left
 ·
  refine OK.seg 25 (by kernel_rfl) (OK.nil ?_)
  refine X.ret ?_
  exact ⟨rfl, giv (r := .bool false) (by kernel_rfl) (bool_f (p := okO o m) (by simp only [okO]; omega))⟩
 refine OK.seg 4 (by kernel_rfl) ?_
 refine OK.rdP [I (o 9), I (-1073741824), I 1073741824] [I (o 9), I (-1073741824), I 1073741824] ((o 9) ≥ (-1073741824) ∧ (o 9) ≤ 1073741824) rfl (by kernel_rfl) rfl (by kernel_rfl) (by kernel_rfl) (by kernel_rfl) (by kernel_rfl) (by kernel_rfl) (in_w _ _ _ _ _ (by omega)) (fun h15 => ?_) (fun h15 => ?_)
 rotate_left
 ·
  refine OK.seg 20 (by kernel_rfl) (OK.nil ?_)
  refine X.ret ?_
  exact ⟨rfl, giv (r := .bool false) (by kernel_rfl) (bool_f (p := okO o m) (by simp only [okO]; omega))⟩
 refine OK.seg 5 (by kernel_rfl) ?_
 refine OK.rdP [I (o 12), I 0, I m] [I (o 12), I 0, I m] ((o 12) ≥ 0 ∧ (o 12) ≤ m) rfl (by kernel_rfl) rfl (by kernel_rfl) (by kernel_rfl) (by kernel_rfl) (by kernel_rfl) (by kernel_rfl) (in_w _ _ _ _ _ (by omega)) (fun h16 => ?_) (fun h16 => ?_)
 rotate_left
 ·
  refine OK.seg 14 (by kernel_rfl) (OK.nil ?_)
  refine X.ret ?_
  exact ⟨rfl, giv (r := .bool false) (by kernel_rfl) (bool_f (p := okO o m) (by simp only [okO]; omega))⟩
 refine OK.seg 5 (by kernel_rfl) ?_
 refine OK.rdP [I (o 15), I 0, I m] [I (o 15), I 0, I m] ((o 15) ≥ 0 ∧ (o 15) ≤ m) rfl (by kernel_rfl) rfl (by kernel_rfl) (by kernel_rfl) (by kernel_rfl) (by kernel_rfl) (by kernel_rfl) (in_w _ _ _ _ _ (by omega)) (fun h17 => ?_) (fun h17 => ?_)
 rotate_left
 ·
  refine OK.seg 8 (by kernel_rfl) (OK.nil ?_)
  refine X.ret ?_
  exact ⟨rfl, giv (r := .bool false) (by kernel_rfl) (bool_f (p := okO o m) (by simp only [okO]; omega))⟩
 refine OK.seg 5 (by kernel_rfl) ?_
 refine OK.rdP [I (o 16), I (-2), I m] [I (o 16), I (-2), I m] ((o 16) ≥ (-2) ∧ (o 16) ≤ m) rfl (by kernel_rfl) rfl (by kernel_rfl) (by kernel_rfl) (by kernel_rfl) (by kernel_rfl) (by kernel_rfl) (in_w _ _ _ _ _ (by omega)) (fun h18 => ?_) (fun h18 => ?_)
 ·
  refine OK.seg 2 (by kernel_rfl) (OK.nil ?_)
  refine X.ret ?_
  exact ⟨rfl, giv (r := .bool true) (by kernel_rfl) (bool_t (p := okO o m) (by simp only [okO]; omega))⟩
 refine OK.seg 2 (by kernel_rfl) (OK.nil ?_)
 refine X.ret ?_
 exact ⟨rfl, giv (r := .bool false) (by kernel_rfl) (bool_f (p := okO o m) (by simp only [okO]; omega))⟩
theorem rformed_w : ∀ k (o : Ob) σ, 120 ≤ k → readW (callW Tryz.prog (exec Tryz.prog cfg k)) 50 [.agg (cO o)] σ = some (.bool (decide (fmd o)), σ) := by
 intro k o σ hk
 obtain ⟨k, rfl⟩ : ∃ k', k = k' + 60 := ⟨k - 60, by omega⟩
 refine reader_of Tryz.func50 rfl (by simp only [AV.frees, AV.free, fr_I, fr_E, fr_cO, fr_cL, fr_cS, Bool.and_self]) ?_
 refine X.seq (X.region (OK.seg 2 (by kernel_rfl) (OK.nil ?_)))
 refine X.seq (X.seq (X.region (OK.seg 2 (by kernel_rfl) ?_)))
 refine OK.ndec ((o 3) = 8) (by kernel_rfl) (by kernel_rfl) (fun h1 => ?_) (fun h1 => ?_)
 rotate_left
 ·
  refine OK.seg 45 (by kernel_rfl) (OK.nil ?_)
  refine X.condF (by kernel_rfl) ?_
  refine X.skip (X.seq (X.seq (X.region (OK.seg 2 (by kernel_rfl) ?_))))
  refine OK.dec ((o 3) < 8) (by kernel_rfl) (by kernel_rfl) (fun h17 => ?_) (fun h17 => ?_)
  rotate_left
  ·
   refine OK.seg 7 (by kernel_rfl) (OK.nil ?_)
   refine X.condF (by kernel_rfl) ?_
   refine X.skip (X.seq (X.region (OK.seg 2 (by kernel_rfl) ?_)))
   refine OK.dec ((o 3) = 9) (by kernel_rfl) (by kernel_rfl) (fun h21 => ?_) (fun h21 => ?_)
   ·
    refine OK.seg 6 (by kernel_rfl) (OK.nil ?_)
    refine X.ret ?_
    exact ⟨rfl, giv (r := .bool true) (by kernel_rfl) (bool_t (p := fmd o) (by simp only [fmd]; omega))⟩
   refine OK.seg 3 (by kernel_rfl) ?_
   refine OK.dec ((o 16) = 0) (by kernel_rfl) (by kernel_rfl) (fun h22 => ?_) (fun h22 => ?_)
   ·
    refine OK.seg 2 (by kernel_rfl) (OK.nil ?_)
    refine X.ret ?_
    exact ⟨rfl, giv (r := .bool true) (by kernel_rfl) (bool_t (p := fmd o) (by simp only [fmd]; omega))⟩
   refine OK.seg 2 (by kernel_rfl) (OK.nil ?_)
   refine X.ret ?_
   exact ⟨rfl, giv (r := .bool false) (by kernel_rfl) (bool_f (p := fmd o) (by simp only [fmd]; omega))⟩
  refine OK.seg 5 (by kernel_rfl) ?_
  refine OK.ndec ((o 2) = (o 1)) (by kernel_rfl) (by kernel_rfl) (fun h18 => ?_) (fun h18 => ?_)
  ·
   refine OK.seg 1 (by kernel_rfl) (OK.nil ?_)
   refine X.condT (by kernel_rfl) ?_
   refine X.seq (X.region (OK.seg 1 (by kernel_rfl) (OK.nil ?_)))
   refine X.ret ?_
   exact ⟨rfl, giv (r := .bool false) (by kernel_rfl) (bool_f (p := fmd o) (by simp only [fmd]; omega))⟩
  refine OK.seg 1 (by kernel_rfl) (OK.nil ?_)
  refine X.condF (by kernel_rfl) ?_
  refine X.skip (X.seq (X.region (OK.seg 2 (by kernel_rfl) ?_)))
  refine OK.dec ((o 3) = 9) (by kernel_rfl) (by kernel_rfl) (fun h19 => ?_) (fun h19 => ?_)
  ·
   refine OK.seg 6 (by kernel_rfl) (OK.nil ?_)
   refine X.ret ?_
   exact ⟨rfl, giv (r := .bool true) (by kernel_rfl) (bool_t (p := fmd o) (by simp only [fmd]; omega))⟩
  refine OK.seg 3 (by kernel_rfl) ?_
  refine OK.dec ((o 16) = 0) (by kernel_rfl) (by kernel_rfl) (fun h20 => ?_) (fun h20 => ?_)
  ·
   refine OK.seg 2 (by kernel_rfl) (OK.nil ?_)
   refine X.ret ?_
   exact ⟨rfl, giv (r := .bool true) (by kernel_rfl) (bool_t (p := fmd o) (by simp only [fmd]; omega))⟩
  refine OK.seg 2 (by kernel_rfl) (OK.nil ?_)
  refine X.ret ?_
  exact ⟨rfl, giv (r := .bool false) (by kernel_rfl) (bool_f (p := fmd o) (by simp only [fmd]; omega))⟩
 refine OK.seg 3 (by kernel_rfl) ?_
 refine OK.ndec ((o 4) = 0) (by kernel_rfl) (by kernel_rfl) (fun h2 => ?_) (fun h2 => ?_)
 ·
  refine OK.seg 41 (by kernel_rfl) (OK.nil ?_)
  refine X.condT (by kernel_rfl) ?_
  refine X.seq (X.region (OK.seg 1 (by kernel_rfl) (OK.nil ?_)))
  refine X.ret ?_
  exact ⟨rfl, giv (r := .bool false) (by kernel_rfl) (bool_f (p := fmd o) (by simp only [fmd]; omega))⟩
 refine OK.seg 3 (by kernel_rfl) ?_
 refine OK.ndec ((o 5) = 0) (by kernel_rfl) (by kernel_rfl) (fun h3 => ?_) (fun h3 => ?_)
 ·
  refine OK.seg 37 (by kernel_rfl) (OK.nil ?_)
  refine X.condT (by kernel_rfl) ?_
  refine X.seq (X.region (OK.seg 1 (by kernel_rfl) (OK.nil ?_)))
  refine X.ret ?_
  exact ⟨rfl, giv (r := .bool false) (by kernel_rfl) (bool_f (p := fmd o) (by simp only [fmd]; omega))⟩
 refine OK.seg 4 (by kernel_rfl) ?_
 refine OK.ndec ((o 6) = 0) (by kernel_rfl) (by kernel_rfl) (fun h4 => ?_) (fun h4 => ?_)
 ·
  refine OK.seg 32 (by kernel_rfl) (OK.nil ?_)
  refine X.condT (by kernel_rfl) ?_
  refine X.seq (X.region (OK.seg 1 (by kernel_rfl) (OK.nil ?_)))
  refine X.ret ?_
  exact ⟨rfl, giv (r := .bool false) (by kernel_rfl) (bool_f (p := fmd o) (by simp only [fmd]; omega))⟩
 refine OK.seg 4 (by kernel_rfl) ?_
 refine OK.ndec ((o 7) = 0) (by kernel_rfl) (by kernel_rfl) (fun h5 => ?_) (fun h5 => ?_)
 ·
  refine OK.seg 27 (by kernel_rfl) (OK.nil ?_)
  refine X.condT (by kernel_rfl) ?_
  refine X.seq (X.region (OK.seg 1 (by kernel_rfl) (OK.nil ?_)))
  refine X.ret ?_
  exact ⟨rfl, giv (r := .bool false) (by kernel_rfl) (bool_f (p := fmd o) (by simp only [fmd]; omega))⟩
 refine OK.seg 4 (by kernel_rfl) ?_
 refine OK.ndec ((o 8) = 0) (by kernel_rfl) (by kernel_rfl) (fun h6 => ?_) (fun h6 => ?_)
 ·
  refine OK.seg 22 (by kernel_rfl) (OK.nil ?_)
  refine X.condT (by kernel_rfl) ?_
  refine X.seq (X.region (OK.seg 1 (by kernel_rfl) (OK.nil ?_)))
  refine X.ret ?_
  exact ⟨rfl, giv (r := .bool false) (by kernel_rfl) (bool_f (p := fmd o) (by simp only [fmd]; omega))⟩
 refine OK.seg 4 (by kernel_rfl) ?_
 refine OK.ndec ((o 9) = 0) (by kernel_rfl) (by kernel_rfl) (fun h7 => ?_) (fun h7 => ?_)
 ·
  refine OK.seg 17 (by kernel_rfl) (OK.nil ?_)
  refine X.condT (by kernel_rfl) ?_
  refine X.seq (X.region (OK.seg 1 (by kernel_rfl) (OK.nil ?_)))
  refine X.ret ?_
  exact ⟨rfl, giv (r := .bool false) (by kernel_rfl) (bool_f (p := fmd o) (by simp only [fmd]; omega))⟩
 refine OK.seg 4 (by kernel_rfl) ?_
 refine OK.ndec ((o 10) = 0) (by kernel_rfl) (by kernel_rfl) (fun h8 => ?_) (fun h8 => ?_)
 ·
  refine OK.seg 12 (by kernel_rfl) (OK.nil ?_)
  refine X.condT (by kernel_rfl) ?_
  refine X.seq (X.region (OK.seg 1 (by kernel_rfl) (OK.nil ?_)))
  refine X.ret ?_
  exact ⟨rfl, giv (r := .bool false) (by kernel_rfl) (bool_f (p := fmd o) (by simp only [fmd]; omega))⟩
 refine OK.seg 4 (by kernel_rfl) ?_
 refine OK.ndec ((o 11) = 0) (by kernel_rfl) (by kernel_rfl) (fun h9 => ?_) (fun h9 => ?_)
 ·
  refine OK.seg 7 (by kernel_rfl) (OK.nil ?_)
  refine X.condT (by kernel_rfl) ?_
  refine X.seq (X.region (OK.seg 1 (by kernel_rfl) (OK.nil ?_)))
  refine X.ret ?_
  exact ⟨rfl, giv (r := .bool false) (by kernel_rfl) (bool_f (p := fmd o) (by simp only [fmd]; omega))⟩
 refine OK.seg 4 (by kernel_rfl) ?_
 refine OK.ndec ((o 12) = 0) (by kernel_rfl) (by kernel_rfl) (fun h10 => ?_) (fun h10 => ?_)
 ·
  refine OK.seg 2 (by kernel_rfl) (OK.nil ?_)
  refine X.condT (by kernel_rfl) ?_
  refine X.seq (X.region (OK.seg 1 (by kernel_rfl) (OK.nil ?_)))
  refine X.ret ?_
  exact ⟨rfl, giv (r := .bool false) (by kernel_rfl) (bool_f (p := fmd o) (by simp only [fmd]; omega))⟩
 refine OK.seg 2 (by kernel_rfl) (OK.nil ?_)
 refine X.condF (by kernel_rfl) ?_
 refine X.skip (X.seq (X.seq (X.region (OK.seg 2 (by kernel_rfl) ?_))))
 refine OK.dec ((o 3) < 8) (by kernel_rfl) (by kernel_rfl) (fun h11 => ?_) (fun h11 => ?_)
 rotate_left
 ·
  refine OK.seg 7 (by kernel_rfl) (OK.nil ?_)
  refine X.condF (by kernel_rfl) ?_
  refine X.skip (X.seq (X.region (OK.seg 2 (by kernel_rfl) ?_)))
  refine OK.dec ((o 3) = 9) (by kernel_rfl) (by kernel_rfl) (fun h15 => ?_) (fun h15 => ?_)
  ·
   refine OK.seg 6 (by kernel_rfl) (OK.nil ?_)
   refine X.ret ?_
   exact ⟨rfl, giv (r := .bool true) (by kernel_rfl) (bool_t (p := fmd o) (by simp only [fmd]; omega))⟩
  refine OK.seg 3 (by kernel_rfl) ?_
  refine OK.dec ((o 16) = 0) (by kernel_rfl) (by kernel_rfl) (fun h16 => ?_) (fun h16 => ?_)
  ·
   refine OK.seg 2 (by kernel_rfl) (OK.nil ?_)
   refine X.ret ?_
   exact ⟨rfl, giv (r := .bool true) (by kernel_rfl) (bool_t (p := fmd o) (by simp only [fmd]; omega))⟩
  refine OK.seg 2 (by kernel_rfl) (OK.nil ?_)
  refine X.ret ?_
  exact ⟨rfl, giv (r := .bool false) (by kernel_rfl) (bool_f (p := fmd o) (by simp only [fmd]; omega))⟩
 refine OK.seg 5 (by kernel_rfl) ?_
 refine OK.ndec ((o 2) = (o 1)) (by kernel_rfl) (by kernel_rfl) (fun h12 => ?_) (fun h12 => ?_)
 ·
  refine OK.seg 1 (by kernel_rfl) (OK.nil ?_)
  refine X.condT (by kernel_rfl) ?_
  refine X.seq (X.region (OK.seg 1 (by kernel_rfl) (OK.nil ?_)))
  refine X.ret ?_
  exact ⟨rfl, giv (r := .bool false) (by kernel_rfl) (bool_f (p := fmd o) (by simp only [fmd]; omega))⟩
 refine OK.seg 1 (by kernel_rfl) (OK.nil ?_)
 refine X.condF (by kernel_rfl) ?_
 refine X.skip (X.seq (X.region (OK.seg 2 (by kernel_rfl) ?_)))
 refine OK.dec ((o 3) = 9) (by kernel_rfl) (by kernel_rfl) (fun h13 => ?_) (fun h13 => ?_)
 ·
  refine OK.seg 6 (by kernel_rfl) (OK.nil ?_)
  refine X.ret ?_
  exact ⟨rfl, giv (r := .bool true) (by kernel_rfl) (bool_t (p := fmd o) (by simp only [fmd]; omega))⟩
 refine OK.seg 3 (by kernel_rfl) ?_
 refine OK.dec ((o 16) = 0) (by kernel_rfl) (by kernel_rfl) (fun h14 => ?_) (fun h14 => ?_)
 ·
  refine OK.seg 2 (by kernel_rfl) (OK.nil ?_)
  refine X.ret ?_
  exact ⟨rfl, giv (r := .bool true) (by kernel_rfl) (bool_t (p := fmd o) (by simp only [fmd]; omega))⟩
 refine OK.seg 2 (by kernel_rfl) (OK.nil ?_)
 refine X.ret ?_
 exact ⟨rfl, giv (r := .bool false) (by kernel_rfl) (bool_f (p := fmd o) (by simp only [fmd]; omega))⟩
set_option maxHeartbeats 4000000 in
theorem rranges_w : ∀ k (s : St) σ, wf s → 600 + s.objs.length ≤ k → readW (callW Tryz.prog (exec Tryz.prog cfg k)) 48 [.agg (cS s)] σ = some (.bool (decide (okR s)), σ) := by
 intro k s σ hyp0 hk
 obtain ⟨k, rfl⟩ : ∃ k', k = k' + 60 := ⟨k - 60, by omega⟩
 obtain ⟨hw1, hw2⟩ := hyp0
 refine reader_of Tryz.func48 rfl (by simp only [AV.frees, AV.free, fr_I, fr_E, fr_cO, fr_cL, fr_cS, Bool.and_self]) ?_
 refine X.seq (X.region (OK.seg 2 (by kernel_rfl) (OK.nil ?_)))
 refine X.seq (X.seq (X.region (OK.seg 4 (by kernel_rfl) (OK.nil ?_))))
 refine X.block ?_
 refine X.rounds3 (K := 400) [2, 4, 13, 14, 15, 16, 17, 18, 19, 20, 21, 22] (by kernel_rfl) rfl (fun m fr σ => ∃ i : Nat, m = s.objs.length - i ∧ clearA' [2, 4, 13, 14, 15, 16, 17, 18, 19, 20, 21, 22] fr = ([.agg (cS s), .ptr 0 0, .opq, undefA, .opq] ++ List.replicate 4 undefA ++ [.ptr 0 0, .list ((s.objs).map E) false, I ((((s.objs).map E).length : Nat) : Int), I ((i : Nat) : Int)] ++ List.replicate 10 .opq ++ List.replicate 68 undefA : List AV) ∧ σ = [.box (cS s) false] ∧ (i ≤ s.objs.length ∧ ∀ j < i, okO (s.objs.getD j o0) s.objs.length)) ?_ (m := s.objs.length) ⟨0, by first | rfl | omega, by kernel_rfl, by kernel_rfl, by exact ⟨Nat.zero_le _, fun j h => absurd h (Nat.not_lt_zero _)⟩⟩ ?_
 rotate_left
 · omega
 rintro m4 fr σ ⟨i, h2, h3, rfl, h1⟩ k h4
 rw [h3]; clear h3
 obtain ⟨k, rfl⟩ : ∃ k', k = k' + 60 := ⟨k - 60, by omega⟩
 refine X.seq (X.region ?_)
 refine OK.dec (((i : Nat) : Int) < ((((s.objs).map E).length : Nat) : Int)) (by kernel_rfl) (by kernel_rfl) (fun h5 => ?_) (fun h5 => ?_)
 ·
  refine OK.nil ?_
  refine X.seq (X.condT (by kernel_rfl) ?_)
  refine X.skip (X.seq (X.block (X.seq (X.region ?_))))
  refine OK.val (.ro (cO ((s.objs).getD i o0)) 0) (by kernel_rfl) (fun _ => idx_map (sz := 18) (g := E) (d := o0) (xs := s.objs) (ex := false) (k := .i64) (n := ((i : Nat) : Int)) rfl Tryz.underlying22 (by kernel_rfl) (by kernel_rfl) (by kernel_rfl) (by kernel_rfl) (by first | omega | (simp only [List.length_map] at *; omega)) (by first | omega | (simp only [List.length_map] at *; omega))) ?_
  refine OK.seg 3 (by kernel_rfl) (OK.nil ?_)
  refine X.seq (X.region (OK.seg 4 (by kernel_rfl) ?_))
  refine OK.rdP [.agg (cO ((s.objs).getD i o0)), I ((((s.objs).map E).length : Nat) : Int)] [.agg (cO ((s.objs).getD i o0)), I ((((s.objs).map E).length : Nat) : Int)] (okO ((s.objs).getD i o0) ((((s.objs).map E).length : Nat) : Int)) rfl (by kernel_rfl) rfl (by kernel_rfl) (by kernel_rfl) (by kernel_rfl) (by kernel_rfl) (by kernel_rfl) (object_w _ _ _ _ (by omega)) (fun h6 => ?_) (fun h6 => ?_)
  rotate_left
  ·
   refine OK.seg 1 (by kernel_rfl) (OK.nil ?_)
   refine X.condT (by kernel_rfl) ?_
   refine X.seq (X.region (OK.seg 1 (by kernel_rfl) (OK.nil ?_)))
   refine X.ret ?_
   exact ⟨rfl, giv (r := .bool false) (by kernel_rfl) (bool_f (p := okR s) (by intro hh; first | (have h2 := hh.2.1; simp only [okP] at h2; omega) | (have h2 := hh.2.2; simp only [okG] at h2; omega) | (have h2 := hh.1 i (by simp only [List.length_map] at *; omega); simp only [List.length_map] at *; contradiction)))⟩
  refine OK.seg 1 (by kernel_rfl) (OK.nil ?_)
  refine X.condF (by kernel_rfl) ?_
  refine X.skip (X.region ?_)
  refine OK.val (I ((i + 1 : Nat) : Int)) (by kernel_rfl) (fun _ => add_op (k := .i64) (a := ((i : Nat) : Int)) (b := 1) rfl (by kernel_rfl) (by kernel_rfl) (by rw [wrap64] <;> first | omega | (simp only [List.length_map] at *; omega))) ?_
  refine OK.seg 1 (by kernel_rfl) (OK.nil ?_)
  refine ⟨([.agg (cS s), .ptr 0 0, .opq, undefA, .opq] ++ List.replicate 4 undefA ++ [.ptr 0 0, .list ((s.objs).map E) false, I ((((s.objs).map E).length : Nat) : Int), I ((i + 1 : Nat) : Int)] ++ List.replicate 10 .opq ++ List.replicate 68 undefA : List AV), [.box (cS s) false, .box (cO ((s.objs).getD i o0)) false], [0, 0], [[], []], by kernel_rfl, by kernel_rfl, by simp only [bS], by simp only [bS], by kernel_rfl, m4 - 1, by first | omega | (simp only [List.length_map] at *; omega), i + 1, by first | rfl | omega, by kernel_rfl, by kernel_rfl, ?_⟩
  refine ⟨by first | omega | (simp only [List.length_map] at *; omega), fun j hj => ?_⟩
  rcases Nat.lt_or_ge j i with hq | hq
  · exact h1.2 j hq
  · obtain rfl : j = i := by omega
    simp only [List.length_map] at *; assumption
 refine OK.nil ?_
 refine X.seq (X.condF (by kernel_rfl) ?_)
 refine X.exit ?_
 show X _ _ _ _ _ _ _ _ _
 refine X.seq (X.seq (X.region (OK.seg 1 (by kernel_rfl) (OK.nil ?_))))
 refine X.block ?_
 refine X.at ([.agg (cS s), .ptr 0 0, .opq, undefA, .opq, I 0, undefA, undefA, undefA, .ptr 0 0, .list ((s.objs).map E) false, I ((((s.objs).map E).length : Nat) : Int), I ((i : Nat) : Int), .bool false] ++ List.replicate 9 .opq ++ List.replicate 68 undefA : List AV) [.box (cS s) false] (by kernel_rfl) (by kernel_rfl) ?_
 refine X.loop1 (by kernel_rfl) ?_
 refine X.seq (X.seq (X.region (OK.seg 2 (by kernel_rfl) (OK.nil ?_))))
 refine X.condT (by kernel_rfl) ?_
 refine X.skip (X.seq (X.block (X.seq (X.region (OK.seg 6 (by kernel_rfl) (OK.nil ?_))))))
 refine X.seq (X.seq (X.region (OK.seg 2 (by kernel_rfl) ?_)))
 refine OK.rdP [I (s.pl 0), I (-1073741824), I 1073741824] [I (s.pl 0), I (-1073741824), I 1073741824] ((s.pl 0) ≥ (-1073741824) ∧ (s.pl 0) ≤ 1073741824) rfl (by kernel_rfl) rfl (by kernel_rfl) (by kernel_rfl) (by kernel_rfl) (by kernel_rfl) (by kernel_rfl) (in_w _ _ _ _ _ (by omega)) (fun h7 => ?_) (fun h7 => ?_)
 rotate_left
 ·
  refine OK.seg 13 (by kernel_rfl) (OK.nil ?_)
  refine X.condT (by kernel_rfl) ?_
  refine X.seq (X.region (OK.seg 1 (by kernel_rfl) (OK.nil ?_)))
  refine X.ret ?_
  exact ⟨rfl, giv (r := .bool false) (by kernel_rfl) (bool_f (p := okR s) (by intro hh; first | (have h2 := hh.2.1; simp only [okP] at h2; omega) | (have h2 := hh.2.2; simp only [okG] at h2; omega) | (have h2 := hh.1 i (by simp only [List.length_map] at *; omega); simp only [List.length_map] at *; contradiction)))⟩
 refine OK.seg 4 (by kernel_rfl) ?_
 refine OK.rdP [I (s.pl 7), I 0, I 1] [I (s.pl 7), I 0, I 1] ((s.pl 7) ≥ 0 ∧ (s.pl 7) ≤ 1) rfl (by kernel_rfl) rfl (by kernel_rfl) (by kernel_rfl) (by kernel_rfl) (by kernel_rfl) (by kernel_rfl) (in_w _ _ _ _ _ (by omega)) (fun h8 => ?_) (fun h8 => ?_)
 rotate_left
 ·
  refine OK.seg 8 (by kernel_rfl) (OK.nil ?_)
  refine X.condT (by kernel_rfl) ?_
  refine X.seq (X.region (OK.seg 1 (by kernel_rfl) (OK.nil ?_)))
  refine X.ret ?_
  exact ⟨rfl, giv (r := .bool false) (by kernel_rfl) (bool_f (p := okR s) (by intro hh; first | (have h2 := hh.2.1; simp only [okP] at h2; omega) | (have h2 := hh.2.2; simp only [okG] at h2; omega) | (have h2 := hh.1 i (by simp only [List.length_map] at *; omega); simp only [List.length_map] at *; contradiction)))⟩
 refine OK.seg 5 (by kernel_rfl) ?_
 refine OK.rdP [I (s.pl 8), I 0, I 1] [I (s.pl 8), I 0, I 1] ((s.pl 8) ≥ 0 ∧ (s.pl 8) ≤ 1) rfl (by kernel_rfl) rfl (by kernel_rfl) (by kernel_rfl) (by kernel_rfl) (by kernel_rfl) (by kernel_rfl) (in_w _ _ _ _ _ (by omega)) (fun h9 => ?_) (fun h9 => ?_)
 rotate_left
 ·
  refine OK.seg 2 (by kernel_rfl) (OK.nil ?_)
  refine X.condT (by kernel_rfl) ?_
  refine X.seq (X.region (OK.seg 1 (by kernel_rfl) (OK.nil ?_)))
  refine X.ret ?_
  exact ⟨rfl, giv (r := .bool false) (by kernel_rfl) (bool_f (p := okR s) (by intro hh; first | (have h2 := hh.2.1; simp only [okP] at h2; omega) | (have h2 := hh.2.2; simp only [okG] at h2; omega) | (have h2 := hh.1 i (by simp only [List.length_map] at *; omega); simp only [List.length_map] at *; contradiction)))⟩
 refine OK.seg 2 (by kernel_rfl) (OK.nil ?_)
 refine X.condF (by kernel_rfl) ?_
 refine X.skip (X.seq (X.region (OK.seg 1 (by kernel_rfl) (OK.nil ?_))))
 refine X.block ?_
 refine X.at ([.agg (cS s), .ptr 0 0, .opq, undefA, .opq, I 0, .ptr 1 0, I 1, undefA, .ptr 0 0, .list ((s.objs).map E) false, I ((((s.objs).map E).length : Nat) : Int), I ((i : Nat) : Int), .bool false] ++ List.replicate 9 .opq ++ [I 0, .bool true, undefA, undefA, I 0, .ptr 0 12, .ptr 0 12, .agg [I (s.pl 0), I (s.pl 1), I (s.pl 2), I (s.pl 3), I (s.pl 4), I (s.pl 5), I (s.pl 6), I (s.pl 7), I (s.pl 8)], .ptr 1 0, I (s.pl 0), .bool true, .bool false, .bool false, .ptr 1 7, I (s.pl 7), .bool true, .bool false, .bool false, .bool false, .ptr 1 8, I (s.pl 8), .bool true, .bool false, .bool false] ++ List.replicate 44 undefA : List AV) [.box (cS s) false, .box [I (s.pl 0), I (s.pl 1), I (s.pl 2), I (s.pl 3), I (s.pl 4), I (s.pl 5), I (s.pl 6), I (s.pl 7), I (s.pl 8)] false] (by kernel_rfl) (by kernel_rfl) ?_
 refine X.loop1 (by kernel_rfl) ?_
 refine X.seq (X.seq (X.region (OK.seg 2 (by kernel_rfl) (OK.nil ?_))))
 refine X.condT (by kernel_rfl) ?_
 refine X.skip (X.seq (X.block (X.seq (X.region (OK.seg 3 (by kernel_rfl) ?_)))))
 refine OK.rdP [I (s.pl 1), I 0, I 1000] [I (s.pl 1), I 0, I 1000] ((s.pl 1) ≥ 0 ∧ (s.pl 1) ≤ 1000) rfl (by kernel_rfl) rfl (by kernel_rfl) (by kernel_rfl) (by kernel_rfl) (by kernel_rfl) (by kernel_rfl) (in_w _ _ _ _ _ (by omega)) (fun h10 => ?_) (fun h10 => ?_)
 rotate_left
 ·
  refine OK.seg 1 (by kernel_rfl) (OK.nil ?_)
  refine X.condT (by kernel_rfl) ?_
  refine X.seq (X.region (OK.seg 1 (by kernel_rfl) (OK.nil ?_)))
  refine X.ret ?_
  exact ⟨rfl, giv (r := .bool false) (by kernel_rfl) (bool_f (p := okR s) (by intro hh; first | (have h2 := hh.2.1; simp only [okP] at h2; omega) | (have h2 := hh.2.2; simp only [okG] at h2; omega) | (have h2 := hh.1 i (by simp only [List.length_map] at *; omega); simp only [List.length_map] at *; contradiction)))⟩
 refine OK.seg 1 (by kernel_rfl) (OK.nil ?_)
 refine X.condF (by kernel_rfl) ?_
 refine X.skip (X.region (OK.seg 3 (by kernel_rfl) (OK.nil ?_)))
 show X _ _ _ _ _ _ _ _ _
 refine X.loop1 (by kernel_rfl) ?_
 refine X.seq (X.seq (X.region (OK.seg 2 (by kernel_rfl) (OK.nil ?_))))
 refine X.condT (by kernel_rfl) ?_
 refine X.skip (X.seq (X.block (X.seq (X.region (OK.seg 3 (by kernel_rfl) ?_)))))
 refine OK.rdP [I (s.pl 2), I 0, I 1000] [I (s.pl 2), I 0, I 1000] ((s.pl 2) ≥ 0 ∧ (s.pl 2) ≤ 1000) rfl (by kernel_rfl) rfl (by kernel_rfl) (by kernel_rfl) (by kernel_rfl) (by kernel_rfl) (by kernel_rfl) (in_w _ _ _ _ _ (by omega)) (fun h11 => ?_) (fun h11 => ?_)
 rotate_left
 ·
  refine OK.seg 1 (by kernel_rfl) (OK.nil ?_)
  refine X.condT (by kernel_rfl) ?_
  refine X.seq (X.region (OK.seg 1 (by kernel_rfl) (OK.nil ?_)))
  refine X.ret ?_
  exact ⟨rfl, giv (r := .bool false) (by kernel_rfl) (bool_f (p := okR s) (by intro hh; first | (have h2 := hh.2.1; simp only [okP] at h2; omega) | (have h2 := hh.2.2; simp only [okG] at h2; omega) | (have h2 := hh.1 i (by simp only [List.length_map] at *; omega); simp only [List.length_map] at *; contradiction)))⟩
 refine OK.seg 1 (by kernel_rfl) (OK.nil ?_)
 refine X.condF (by kernel_rfl) ?_
 refine X.skip (X.region (OK.seg 3 (by kernel_rfl) (OK.nil ?_)))
 show X _ _ _ _ _ _ _ _ _
 refine X.loop1 (by kernel_rfl) ?_
 refine X.seq (X.seq (X.region (OK.seg 2 (by kernel_rfl) (OK.nil ?_))))
 refine X.condT (by kernel_rfl) ?_
 refine X.skip (X.seq (X.block (X.seq (X.region (OK.seg 3 (by kernel_rfl) ?_)))))
 refine OK.rdP [I (s.pl 3), I 0, I 1000] [I (s.pl 3), I 0, I 1000] ((s.pl 3) ≥ 0 ∧ (s.pl 3) ≤ 1000) rfl (by kernel_rfl) rfl (by kernel_rfl) (by kernel_rfl) (by kernel_rfl) (by kernel_rfl) (by kernel_rfl) (in_w _ _ _ _ _ (by omega)) (fun h12 => ?_) (fun h12 => ?_)
 rotate_left
 ·
  refine OK.seg 1 (by kernel_rfl) (OK.nil ?_)
  refine X.condT (by kernel_rfl) ?_
  refine X.seq (X.region (OK.seg 1 (by kernel_rfl) (OK.nil ?_)))
  refine X.ret ?_
  exact ⟨rfl, giv (r := .bool false) (by kernel_rfl) (bool_f (p := okR s) (by intro hh; first | (have h2 := hh.2.1; simp only [okP] at h2; omega) | (have h2 := hh.2.2; simp only [okG] at h2; omega) | (have h2 := hh.1 i (by simp only [List.length_map] at *; omega); simp only [List.length_map] at *; contradiction)))⟩
 refine OK.seg 1 (by kernel_rfl) (OK.nil ?_)
 refine X.condF (by kernel_rfl) ?_
 refine X.skip (X.region (OK.seg 3 (by kernel_rfl) (OK.nil ?_)))
 show X _ _ _ _ _ _ _ _ _
 refine X.loop1 (by kernel_rfl) ?_
 refine X.seq (X.seq (X.region (OK.seg 2 (by kernel_rfl) (OK.nil ?_))))
 refine X.condT (by kernel_rfl) ?_
 refine X.skip (X.seq (X.block (X.seq (X.region (OK.seg 3 (by kernel_rfl) ?_)))))
 refine OK.rdP [I (s.pl 4), I 0, I 1000] [I (s.pl 4), I 0, I 1000] ((s.pl 4) ≥ 0 ∧ (s.pl 4) ≤ 1000) rfl (by kernel_rfl) rfl (by kernel_rfl) (by kernel_rfl) (by kernel_rfl) (by kernel_rfl) (by kernel_rfl) (in_w _ _ _ _ _ (by omega)) (fun h13 => ?_) (fun h13 => ?_)
 rotate_left
 ·
  refine OK.seg 1 (by kernel_rfl) (OK.nil ?_)
  refine X.condT (by kernel_rfl) ?_
  refine X.seq (X.region (OK.seg 1 (by kernel_rfl) (OK.nil ?_)))
  refine X.ret ?_
  exact ⟨rfl, giv (r := .bool false) (by kernel_rfl) (bool_f (p := okR s) (by intro hh; first | (have h2 := hh.2.1; simp only [okP] at h2; omega) | (have h2 := hh.2.2; simp only [okG] at h2; omega) | (have h2 := hh.1 i (by simp only [List.length_map] at *; omega); simp only [List.length_map] at *; contradiction)))⟩
 refine OK.seg 1 (by kernel_rfl) (OK.nil ?_)
 refine X.condF (by kernel_rfl) ?_
 refine X.skip (X.region (OK.seg 3 (by kernel_rfl) (OK.nil ?_)))
 show X _ _ _ _ _ _ _ _ _
 refine X.loop1 (by kernel_rfl) ?_
 refine X.seq (X.seq (X.region (OK.seg 2 (by kernel_rfl) (OK.nil ?_))))
 refine X.condT (by kernel_rfl) ?_
 refine X.skip (X.seq (X.block (X.seq (X.region (OK.seg 3 (by kernel_rfl) ?_)))))
 refine OK.rdP [I (s.pl 5), I 0, I 1000] [I (s.pl 5), I 0, I 1000] ((s.pl 5) ≥ 0 ∧ (s.pl 5) ≤ 1000) rfl (by kernel_rfl) rfl (by kernel_rfl) (by kernel_rfl) (by kernel_rfl) (by kernel_rfl) (by kernel_rfl) (in_w _ _ _ _ _ (by omega)) (fun h14 => ?_) (fun h14 => ?_)
 rotate_left
 ·
  refine OK.seg 1 (by kernel_rfl) (OK.nil ?_)
  refine X.condT (by kernel_rfl) ?_
  refine X.seq (X.region (OK.seg 1 (by kernel_rfl) (OK.nil ?_)))
  refine X.ret ?_
  exact ⟨rfl, giv (r := .bool false) (by kernel_rfl) (bool_f (p := okR s) (by intro hh; first | (have h2 := hh.2.1; simp only [okP] at h2; omega) | (have h2 := hh.2.2; simp only [okG] at h2; omega) | (have h2 := hh.1 i (by simp only [List.length_map] at *; omega); simp only [List.length_map] at *; contradiction)))⟩
 refine OK.seg 1 (by kernel_rfl) (OK.nil ?_)
 refine X.condF (by kernel_rfl) ?_
 refine X.skip (X.region (OK.seg 3 (by kernel_rfl) (OK.nil ?_)))
 show X _ _ _ _ _ _ _ _ _
 refine X.loop1 (by kernel_rfl) ?_
 refine X.seq (X.seq (X.region (OK.seg 2 (by kernel_rfl) (OK.nil ?_))))
 refine X.condT (by kernel_rfl) ?_
 refine X.skip (X.seq (X.block (X.seq (X.region (OK.seg 3 (by kernel_rfl) ?_)))))
 refine OK.rdP [I (s.pl 6), I 0, I 1000] [I (s.pl 6), I 0, I 1000] ((s.pl 6) ≥ 0 ∧ (s.pl 6) ≤ 1000) rfl (by kernel_rfl) rfl (by kernel_rfl) (by kernel_rfl) (by kernel_rfl) (by kernel_rfl) (by kernel_rfl) (in_w _ _ _ _ _ (by omega)) (fun h15 => ?_) (fun h15 => ?_)
 rotate_left
 ·
  refine OK.seg 1 (by kernel_rfl) (OK.nil ?_)
  refine X.condT (by kernel_rfl) ?_
  refine X.seq (X.region (OK.seg 1 (by kernel_rfl) (OK.nil ?_)))
  refine X.ret ?_
  exact ⟨rfl, giv (r := .bool false) (by kernel_rfl) (bool_f (p := okR s) (by intro hh; first | (have h2 := hh.2.1; simp only [okP] at h2; omega) | (have h2 := hh.2.2; simp only [okG] at h2; omega) | (have h2 := hh.1 i (by simp only [List.length_map] at *; omega); simp only [List.length_map] at *; contradiction)))⟩
 refine OK.seg 1 (by kernel_rfl) (OK.nil ?_)
 refine X.condF (by kernel_rfl) ?_
 refine X.skip (X.region (OK.seg 3 (by kernel_rfl) (OK.nil ?_)))
 show X _ _ _ _ _ _ _ _ _
 refine X.loop1 (by kernel_rfl) ?_
 refine X.seq (X.seq (X.region (OK.seg 2 (by kernel_rfl) (OK.nil ?_))))
 refine X.condF (by kernel_rfl) ?_
 refine X.exit ?_
 show X _ _ _ _ _ _ _ _ _
 refine X.region (OK.seg 3 (by kernel_rfl) (OK.nil ?_))
 show X _ _ _ _ _ _ _ _ _
 refine X.loop1 (by kernel_rfl) ?_
 refine X.seq (X.seq (X.region (OK.seg 2 (by kernel_rfl) (OK.nil ?_))))
 refine X.condT (by kernel_rfl) ?_
 refine X.skip (X.seq (X.block (X.seq (X.region (OK.seg 6 (by kernel_rfl) (OK.nil ?_))))))
 refine X.seq (X.seq (X.region (OK.seg 2 (by kernel_rfl) ?_)))
 refine OK.rdP [I (s.pl 9), I (-1073741824), I 1073741824] [I (s.pl 9), I (-1073741824), I 1073741824] ((s.pl 9) ≥ (-1073741824) ∧ (s.pl 9) ≤ 1073741824) rfl (by kernel_rfl) rfl (by kernel_rfl) (by kernel_rfl) (by kernel_rfl) (by kernel_rfl) (by kernel_rfl) (in_w _ _ _ _ _ (by omega)) (fun h16 => ?_) (fun h16 => ?_)
 rotate_left
 ·
  refine OK.seg 13 (by kernel_rfl) (OK.nil ?_)
  refine X.condT (by kernel_rfl) ?_
  refine X.seq (X.region (OK.seg 1 (by kernel_rfl) (OK.nil ?_)))
  refine X.ret ?_
  exact ⟨rfl, giv (r := .bool false) (by kernel_rfl) (bool_f (p := okR s) (by intro hh; first | (have h2 := hh.2.1; simp only [okP] at h2; omega) | (have h2 := hh.2.2; simp only [okG] at h2; omega) | (have h2 := hh.1 i (by simp only [List.length_map] at *; omega); simp only [List.length_map] at *; contradiction)))⟩
 refine OK.seg 4 (by kernel_rfl) ?_
 refine OK.rdP [I (s.pl 16), I 0, I 1] [I (s.pl 16), I 0, I 1] ((s.pl 16) ≥ 0 ∧ (s.pl 16) ≤ 1) rfl (by kernel_rfl) rfl (by kernel_rfl) (by kernel_rfl) (by kernel_rfl) (by kernel_rfl) (by kernel_rfl) (in_w _ _ _ _ _ (by omega)) (fun h17 => ?_) (fun h17 => ?_)
 rotate_left
 ·
  refine OK.seg 8 (by kernel_rfl) (OK.nil ?_)
  refine X.condT (by kernel_rfl) ?_
  refine X.seq (X.region (OK.seg 1 (by kernel_rfl) (OK.nil ?_)))
  refine X.ret ?_
  exact ⟨rfl, giv (r := .bool false) (by kernel_rfl) (bool_f (p := okR s) (by intro hh; first | (have h2 := hh.2.1; simp only [okP] at h2; omega) | (have h2 := hh.2.2; simp only [okG] at h2; omega) | (have h2 := hh.1 i (by simp only [List.length_map] at *; omega); simp only [List.length_map] at *; contradiction)))⟩
 refine OK.seg 5 (by kernel_rfl) ?_
 refine OK.rdP [I (s.pl 17), I 0, I 1] [I (s.pl 17), I 0, I 1] ((s.pl 17) ≥ 0 ∧ (s.pl 17) ≤ 1) rfl (by kernel_rfl) rfl (by kernel_rfl) (by kernel_rfl) (by kernel_rfl) (by kernel_rfl) (by kernel_rfl) (in_w _ _ _ _ _ (by omega)) (fun h18 => ?_) (fun h18 => ?_)
 rotate_left
 ·
  refine OK.seg 2 (by kernel_rfl) (OK.nil ?_)
  refine X.condT (by kernel_rfl) ?_
  refine X.seq (X.region (OK.seg 1 (by kernel_rfl) (OK.nil ?_)))
  refine X.ret ?_
  exact ⟨rfl, giv (r := .bool false) (by kernel_rfl) (bool_f (p := okR s) (by intro hh; first | (have h2 := hh.2.1; simp only [okP] at h2; omega) | (have h2 := hh.2.2; simp only [okG] at h2; omega) | (have h2 := hh.1 i (by simp only [List.length_map] at *; omega); simp only [List.length_map] at *; contradiction)))⟩
 refine OK.seg 2 (by kernel_rfl) (OK.nil ?_)
 refine X.condF (by kernel_rfl) ?_
 refine X.skip (X.seq (X.region (OK.seg 1 (by kernel_rfl) (OK.nil ?_))))
 refine X.block ?_
 refine X.at ([.agg (cS s), .ptr 0 0, .opq, undefA, .opq, I 1, .ptr 2 0, I 1, undefA, .ptr 0 0, .list ((s.objs).map E) false, I ((((s.objs).map E).length : Nat) : Int), I ((i : Nat) : Int), .bool false] ++ List.replicate 9 .opq ++ [I 1, .bool true, I 0, I 1, I 1, .ptr 0 12, .ptr 0 21, .agg [I (s.pl 9), I (s.pl 10), I (s.pl 11), I (s.pl 12), I (s.pl 13), I (s.pl 14), I (s.pl 15), I (s.pl 16), I (s.pl 17)], .ptr 2 0, I (s.pl 9), .bool true, .bool false, .bool false, .ptr 2 7, I (s.pl 16), .bool true, .bool false, .bool false, .bool false, .ptr 2 8, I (s.pl 17), .bool true, .bool false, .bool false, I 7, .bool false, I 6, I 7, I 6, .ptr 1 6, I (s.pl 6), .bool true, .bool false] ++ List.replicate 35 undefA : List AV) [.box (cS s) false, .box [I (s.pl 0), I (s.pl 1), I (s.pl 2), I (s.pl 3), I (s.pl 4), I (s.pl 5), I (s.pl 6), I (s.pl 7), I (s.pl 8)] false, .box [I (s.pl 9), I (s.pl 10), I (s.pl 11), I (s.pl 12), I (s.pl 13), I (s.pl 14), I (s.pl 15), I (s.pl 16), I (s.pl 17)] false] (by kernel_rfl) (by kernel_rfl) ?_
 refine X.loop1 (by kernel_rfl) ?_
 refine X.seq (X.seq (X.region (OK.seg 2 (by kernel_rfl) (OK.nil ?_))))
 refine X.condT (by kernel_rfl) ?_
 refine X.skip (X.seq (X.block (X.seq (X.region (OK.seg 3 (by kernel_rfl) ?_)))))
 refine OK.rdP [I (s.pl 10), I 0, I 1000] [I (s.pl 10), I 0, I 1000] ((s.pl 10) ≥ 0 ∧ (s.pl 10) ≤ 1000) rfl (by kernel_rfl) rfl (by kernel_rfl) (by kernel_rfl) (by kernel_rfl) (by kernel_rfl) (by kernel_rfl) (in_w _ _ _ _ _ (by omega)) (fun h19 => ?_) (fun h19 => ?_)
 rotate_left
 ·
  refine OK.seg 1 (by kernel_rfl) (OK.nil ?_)
  refine X.condT (by kernel_rfl) ?_
  refine X.seq (X.region (OK.seg 1 (by kernel_rfl) (OK.nil ?_)))
  refine X.ret ?_
  exact ⟨rfl, giv (r := .bool false) (by kernel_rfl) (bool_f (p := okR s) (by intro hh; first | (have h2 := hh.2.1; simp only [okP] at h2; omega) | (have h2 := hh.2.2; simp only [okG] at h2; omega) | (have h2 := hh.1 i (by simp only [List.length_map] at *; omega); simp only [List.length_map] at *; contradiction)))⟩
 refine OK.seg 1 (by kernel_rfl) (OK.nil ?_)
 refine X.condF (by kernel_rfl) ?_
 refine X.skip (X.region (OK.seg 3 (by kernel_rfl) (OK.nil ?_)))
 show X _ _ _ _ _ _ _ _ _
 refine X.loop1 (by kernel_rfl) ?_
 refine X.seq (X.seq (X.region (OK.seg 2 (by kernel_rfl) (OK.nil ?_))))
 refine X.condT (by kernel_rfl) ?_
 refine X.skip (X.seq (X.block (X.seq (X.region (OK.seg 3 (by kernel_rfl) ?_)))))
 refine OK.rdP [I (s.pl 11), I 0, I 1000] [I (s.pl 11), I 0, I 1000] ((s.pl 11) ≥ 0 ∧ (s.pl 11) ≤ 1000) rfl (by kernel_rfl) rfl (by kernel_rfl) (by kernel_rfl) (by kernel_rfl) (by kernel_rfl) (by kernel_rfl) (in_w _ _ _ _ _ (by omega)) (fun h20 => ?_) (fun h20 => ?_)
 rotate_left
 ·
  refine OK.seg 1 (by kernel_rfl) (OK.nil ?_)
  refine X.condT (by kernel_rfl) ?_
  refine X.seq (X.region (OK.seg 1 (by kernel_rfl) (OK.nil ?_)))
  refine X.ret ?_
  exact ⟨rfl, giv (r := .bool false) (by kernel_rfl) (bool_f (p := okR s) (by intro hh; first | (have h2 := hh.2.1; simp only [okP] at h2; omega) | (have h2 := hh.2.2; simp only [okG] at h2; omega) | (have h2 := hh.1 i (by simp only [List.length_map] at *; omega); simp only [List.length_map] at *; contradiction)))⟩
 refine OK.seg 1 (by kernel_rfl) (OK.nil ?_)
 refine X.condF (by kernel_rfl) ?_
 refine X.skip (X.region (OK.seg 3 (by kernel_rfl) (OK.nil ?_)))
 show X _ _ _ _ _ _ _ _ _
 refine X.loop1 (by kernel_rfl) ?_
 refine X.seq (X.seq (X.region (OK.seg 2 (by kernel_rfl) (OK.nil ?_))))
 refine X.condT (by kernel_rfl) ?_
 refine X.skip (X.seq (X.block (X.seq (X.region (OK.seg 3 (by kernel_rfl) ?_)))))
 refine OK.rdP [I (s.pl 12), I 0, I 1000] [I (s.pl 12), I 0, I 1000] ((s.pl 12) ≥ 0 ∧ (s.pl 12) ≤ 1000) rfl (by kernel_rfl) rfl (by kernel_rfl) (by kernel_rfl) (by kernel_rfl) (by kernel_rfl) (by kernel_rfl) (in_w _ _ _ _ _ (by omega)) (fun h21 => ?_) (fun h21 => ?_)
 rotate_left
 ·
  refine OK.seg 1 (by kernel_rfl) (OK.nil ?_)
  refine X.condT (by kernel_rfl) ?_
  refine X.seq (X.region (OK.seg 1 (by kernel_rfl) (OK.nil ?_)))
  refine X.ret ?_
  exact ⟨rfl, giv (r := .bool false) (by kernel_rfl) (bool_f (p := okR s) (by intro hh; first | (have h2 := hh.2.1; simp only [okP] at h2; omega) | (have h2 := hh.2.2; simp only [okG] at h2; omega) | (have h2 := hh.1 i (by simp only [List.length_map] at *; omega); simp only [List.length_map] at *; contradiction)))⟩
 refine OK.seg 1 (by kernel_rfl) (OK.nil ?_)
 refine X.condF (by kernel_rfl) ?_
 refine X.skip (X.region (OK.seg 3 (by kernel_rfl) (OK.nil ?_)))
 show X _ _ _ _ _ _ _ _ _
 refine X.loop1 (by kernel_rfl) ?_
 refine X.seq (X.seq (X.region (OK.seg 2 (by kernel_rfl) (OK.nil ?_))))
 refine X.condT (by kernel_rfl) ?_
 refine X.skip (X.seq (X.block (X.seq (X.region (OK.seg 3 (by kernel_rfl) ?_)))))
 refine OK.rdP [I (s.pl 13), I 0, I 1000] [I (s.pl 13), I 0, I 1000] ((s.pl 13) ≥ 0 ∧ (s.pl 13) ≤ 1000) rfl (by kernel_rfl) rfl (by kernel_rfl) (by kernel_rfl) (by kernel_rfl) (by kernel_rfl) (by kernel_rfl) (in_w _ _ _ _ _ (by omega)) (fun h22 => ?_) (fun h22 => ?_)
 rotate_left
 ·
  refine OK.seg 1 (by kernel_rfl) (OK.nil ?_)
  refine X.condT (by kernel_rfl) ?_
  refine X.seq (X.region (OK.seg 1 (by kernel_rfl) (OK.nil ?_)))
  refine X.ret ?_
  exact ⟨rfl, giv (r := .bool false) (by kernel_rfl) (bool_f (p := okR s) (by intro hh; first | (have h2 := hh.2.1; simp only [okP] at h2; omega) | (have h2 := hh.2.2; simp only [okG] at h2; omega) | (have h2 := hh.1 i (by simp only [List.length_map] at *; omega); simp only [List.length_map] at *; contradiction)))⟩
 refine OK.seg 1 (by kernel_rfl) (OK.nil ?_)
 refine X.condF (by kernel_rfl) ?_
 refine X.skip (X.region (OK.seg 3 (by kernel_rfl) (OK.nil ?_)))
 show X _ _ _ _ _ _ _ _ _
 refine X.loop1 (by kernel_rfl) ?_
 refine X.seq (X.seq (X.region (OK.seg 2 (by kernel_rfl) (OK.nil ?_))))
 refine X.condT (by kernel_rfl) ?_
 refine X.skip (X.seq (X.block (X.seq (X.region (OK.seg 3 (by kernel_rfl) ?_)))))
 refine OK.rdP [I (s.pl 14), I 0, I 1000] [I (s.pl 14), I 0, I 1000] ((s.pl 14) ≥ 0 ∧ (s.pl 14) ≤ 1000) rfl (by kernel_rfl) rfl (by kernel_rfl) (by kernel_rfl) (by kernel_rfl) (by kernel_rfl) (by kernel_rfl) (in_w _ _ _ _ _ (by omega)) (fun h23 => ?_) (fun h23 => ?_)
 rotate_left
 ·
  refine OK.seg 1 (by kernel_rfl) (OK.nil ?_)
  refine X.condT (by kernel_rfl) ?_
  refine X.seq (X.region (OK.seg 1 (by kernel_rfl) (OK.nil ?_)))
  refine X.ret ?_
  exact ⟨rfl, giv (r := .bool false) (by kernel_rfl) (bool_f (p := okR s) (by intro hh; first | (have h2 := hh.2.1; simp only [okP] at h2; omega) | (have h2 := hh.2.2; simp only [okG] at h2; omega) | (have h2 := hh.1 i (by simp only [List.length_map] at *; omega); simp only [List.length_map] at *; contradiction)))⟩
 refine OK.seg 1 (by kernel_rfl) (OK.nil ?_)
 refine X.condF (by kernel_rfl) ?_
 refine X.skip (X.region (OK.seg 3 (by kernel_rfl) (OK.nil ?_)))
 show X _ _ _ _ _ _ _ _ _
 refine X.loop1 (by kernel_rfl) ?_
 refine X.seq (X.seq (X.region (OK.seg 2 (by kernel_rfl) (OK.nil ?_))))
 refine X.condT (by kernel_rfl) ?_
 refine X.skip (X.seq (X.block (X.seq (X.region (OK.seg 3 (by kernel_rfl) ?_)))))
 refine OK.rdP [I (s.pl 15), I 0, I 1000] [I (s.pl 15), I 0, I 1000] ((s.pl 15) ≥ 0 ∧ (s.pl 15) ≤ 1000) rfl (by kernel_rfl) rfl (by kernel_rfl) (by kernel_rfl) (by kernel_rfl) (by kernel_rfl) (by kernel_rfl) (in_w _ _ _ _ _ (by omega)) (fun h24 => ?_) (fun h24 => ?_)
 rotate_left
 ·
  refine OK.seg 1 (by kernel_rfl) (OK.nil ?_)
  refine X.condT (by kernel_rfl) ?_
  refine X.seq (X.region (OK.seg 1 (by kernel_rfl) (OK.nil ?_)))
  refine X.ret ?_
  exact ⟨rfl, giv (r := .bool false) (by kernel_rfl) (bool_f (p := okR s) (by intro hh; first | (have h2 := hh.2.1; simp only [okP] at h2; omega) | (have h2 := hh.2.2; simp only [okG] at h2; omega) | (have h2 := hh.1 i (by simp only [List.length_map] at *; omega); simp only [List.length_map] at *; contradiction)))⟩
 refine OK.seg 1 (by kernel_rfl) (OK.nil ?_)
 refine X.condF (by kernel_rfl) ?_
 refine X.skip (X.region (OK.seg 3 (by kernel_rfl) (OK.nil ?_)))
 show X _ _ _ _ _ _ _ _ _
 refine X.loop1 (by kernel_rfl) ?_
 refine X.seq (X.seq (X.region (OK.seg 2 (by kernel_rfl) (OK.nil ?_))))
 refine X.condF (by kernel_rfl) ?_
 refine X.exit ?_
 show X _ _ _ _ _ _ _ _ _
 refine X.region (OK.seg 3 (by kernel_rfl) (OK.nil ?_))
 show X _ _ _ _ _ _ _ _ _
 refine X.loop1 (by kernel_rfl) ?_
 refine X.seq (X.seq (X.region (OK.seg 2 (by kernel_rfl) (OK.nil ?_))))
 refine X.condF (by kernel_rfl) ?_
 refine X.exit ?_
 show X _ _ _ _ _ _ _ _ _
 refine X.seq (X.region (OK.seg 4 (by kernel_rfl) (OK.nil ?_)))
 refine X.seq (X.region (OK.seg 2 (by kernel_rfl) ?_))
 refine OK.rdP [I (s.gm 0), I 0, I 1073741824] [I (s.gm 0), I 0, I 1073741824] ((s.gm 0) ≥ 0 ∧ (s.gm 0) ≤ 1073741824) rfl (by kernel_rfl) rfl (by kernel_rfl) (by kernel_rfl) (by kernel_rfl) (by kernel_rfl) (by kernel_rfl) (in_w _ _ _ _ _ (by omega)) (fun h25 => ?_) (fun h25 => ?_)
 rotate_left
 ·
  refine OK.seg 31 (by kernel_rfl) (OK.nil ?_)
  refine X.ret ?_
  exact ⟨rfl, giv (r := .bool false) (by kernel_rfl) (bool_f (p := okR s) (by intro hh; first | (have h2 := hh.2.1; simp only [okP] at h2; omega) | (have h2 := hh.2.2; simp only [okG] at h2; omega) | (have h2 := hh.1 i (by simp only [List.length_map] at *; omega); simp only [List.length_map] at *; contradiction)))⟩
 refine OK.seg 3 (by kernel_rfl) ?_
 refine OK.rdP [I (s.gm 1), I 0, I 1] [I (s.gm 1), I 0, I 1] ((s.gm 1) ≥ 0 ∧ (s.gm 1) ≤ 1) rfl (by kernel_rfl) rfl (by kernel_rfl) (by kernel_rfl) (by kernel_rfl) (by kernel_rfl) (by kernel_rfl) (in_w _ _ _ _ _ (by omega)) (fun h26 => ?_) (fun h26 => ?_)
 rotate_left
 ·
  refine OK.seg 27 (by kernel_rfl) (OK.nil ?_)
  refine X.ret ?_
  exact ⟨rfl, giv (r := .bool false) (by kernel_rfl) (bool_f (p := okR s) (by intro hh; first | (have h2 := hh.2.1; simp only [okP] at h2; omega) | (have h2 := hh.2.2; simp only [okG] at h2; omega) | (have h2 := hh.1 i (by simp only [List.length_map] at *; omega); simp only [List.length_map] at *; contradiction)))⟩
 refine OK.seg 4 (by kernel_rfl) ?_
 refine OK.rdP [I (s.gm 2), I 0, I 7] [I (s.gm 2), I 0, I 7] ((s.gm 2) ≥ 0 ∧ (s.gm 2) ≤ 7) rfl (by kernel_rfl) rfl (by kernel_rfl) (by kernel_rfl) (by kernel_rfl) (by kernel_rfl) (by kernel_rfl) (in_w _ _ _ _ _ (by omega)) (fun h27 => ?_) (fun h27 => ?_)
 rotate_left
 ·
  refine OK.seg 22 (by kernel_rfl) (OK.nil ?_)
  refine X.ret ?_
  exact ⟨rfl, giv (r := .bool false) (by kernel_rfl) (bool_f (p := okR s) (by intro hh; first | (have h2 := hh.2.1; simp only [okP] at h2; omega) | (have h2 := hh.2.2; simp only [okG] at h2; omega) | (have h2 := hh.1 i (by simp only [List.length_map] at *; omega); simp only [List.length_map] at *; contradiction)))⟩
 refine OK.seg 4 (by kernel_rfl) ?_
 refine OK.rdP [I (s.gm 3), I 0, I 1] [I (s.gm 3), I 0, I 1] ((s.gm 3) ≥ 0 ∧ (s.gm 3) ≤ 1) rfl (by kernel_rfl) rfl (by kernel_rfl) (by kernel_rfl) (by kernel_rfl) (by kernel_rfl) (by kernel_rfl) (in_w _ _ _ _ _ (by omega)) (fun h28 => ?_) (fun h28 => ?_)
 rotate_left
 ·
  refine OK.seg 17 (by kernel_rfl) (OK.nil ?_)
  refine X.ret ?_
  exact ⟨rfl, giv (r := .bool false) (by kernel_rfl) (bool_f (p := okR s) (by intro hh; first | (have h2 := hh.2.1; simp only [okP] at h2; omega) | (have h2 := hh.2.2; simp only [okG] at h2; omega) | (have h2 := hh.1 i (by simp only [List.length_map] at *; omega); simp only [List.length_map] at *; contradiction)))⟩
 refine OK.seg 4 (by kernel_rfl) ?_
 refine OK.rdP [I (s.gm 4), I 0, I 1] [I (s.gm 4), I 0, I 1] ((s.gm 4) ≥ 0 ∧ (s.gm 4) ≤ 1) rfl (by kernel_rfl) rfl (by kernel_rfl) (by kernel_rfl) (by kernel_rfl) (by kernel_rfl) (by kernel_rfl) (in_w _ _ _ _ _ (by omega)) (fun h29 => ?_) (fun h29 => ?_)
 rotate_left
 ·
  refine OK.seg 12 (by kernel_rfl) (OK.nil ?_)
  refine X.ret ?_
  exact ⟨rfl, giv (r := .bool false) (by kernel_rfl) (bool_f (p := okR s) (by intro hh; first | (have h2 := hh.2.1; simp only [okP] at h2; omega) | (have h2 := hh.2.2; simp only [okG] at h2; omega) | (have h2 := hh.1 i (by simp only [List.length_map] at *; omega); simp only [List.length_map] at *; contradiction)))⟩
 refine OK.seg 4 (by kernel_rfl) ?_
 refine OK.rdP [I (s.gm 5), I 0, I 4096] [I (s.gm 5), I 0, I 4096] ((s.gm 5) ≥ 0 ∧ (s.gm 5) ≤ 4096) rfl (by kernel_rfl) rfl (by kernel_rfl) (by kernel_rfl) (by kernel_rfl) (by kernel_rfl) (by kernel_rfl) (in_w _ _ _ _ _ (by omega)) (fun h30 => ?_) (fun h30 => ?_)
 rotate_left
 ·
  refine OK.seg 7 (by kernel_rfl) (OK.nil ?_)
  refine X.ret ?_
  exact ⟨rfl, giv (r := .bool false) (by kernel_rfl) (bool_f (p := okR s) (by intro hh; first | (have h2 := hh.2.1; simp only [okP] at h2; omega) | (have h2 := hh.2.2; simp only [okG] at h2; omega) | (have h2 := hh.1 i (by simp only [List.length_map] at *; omega); simp only [List.length_map] at *; contradiction)))⟩
 refine OK.seg 4 (by kernel_rfl) ?_
 refine OK.rdP [I (s.gm 6), I 0, I 3] [I (s.gm 6), I 0, I 3] ((s.gm 6) ≥ 0 ∧ (s.gm 6) ≤ 3) rfl (by kernel_rfl) rfl (by kernel_rfl) (by kernel_rfl) (by kernel_rfl) (by kernel_rfl) (by kernel_rfl) (in_w _ _ _ _ _ (by omega)) (fun h31 => ?_) (fun h31 => ?_)
 ·
  refine OK.seg 2 (by kernel_rfl) (OK.nil ?_)
  refine X.ret ?_
  exact ⟨rfl, giv (r := .bool true) (by kernel_rfl) (bool_t (p := okR s) (by refine ⟨fun j hj => h1.2 j (by simp only [List.length_map] at *; omega), ?_, ?_⟩; (simp only [okP]; omega); (simp only [okG]; omega)))⟩
 refine OK.seg 2 (by kernel_rfl) (OK.nil ?_)
 refine X.ret ?_
 exact ⟨rfl, giv (r := .bool false) (by kernel_rfl) (bool_f (p := okR s) (by intro hh; first | (have h2 := hh.2.1; simp only [okP] at h2; omega) | (have h2 := hh.2.2; simp only [okG] at h2; omega) | (have h2 := hh.1 i (by simp only [List.length_map] at *; omega); simp only [List.length_map] at *; contradiction)))⟩
end Go.Abs.Z
