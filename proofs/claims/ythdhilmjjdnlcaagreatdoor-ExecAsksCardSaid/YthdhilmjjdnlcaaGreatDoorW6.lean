/-
  Walks: what an If asks for, and the law ExecAsks itself. Each under its own conditions.
-/
import Derived.Test.YthdhilmjjdnlcaaGreatDoorW5
import Derived.Test.YthdhilmjjdnlcaaGreatDoorX
import Derived.Test.YthdhilmjjdnlcaaGreatDoorL4
set_option linter.unusedSimpArgs false
set_option linter.unusedVariables false

/- What an If asks for; the law's arguments. -/
namespace Go.Abs.S22
open Go Go.Abs Go.Proofs

def hldC (s : St) (n m life b h : Int) : Prop := rightS s ∧ (n = 0 ∧ life ≤ m ∨ n = 1 ∧ b ≥ m ∨ n = 2 ∧ h ≥ m)
def hold (s : St) (n m p : Int) : Prop := p = 0 ∧ hldC s n m (s.pl 0) (bea s 0).length (s.ls 3).length ∨ p = 1 ∧ hldC s n m (s.pl 9) (bea s 1).length (s.ls 2).length
noncomputable instance (s : St) (n m p : Int) : Decidable (hold s n m p) := Classical.propDecidable _

/-- A state as the law gets it: what is known of its slices' ends. -/
def cSf (s : St) (x : Nat → Bool) : List AV := [.list (s.objs.map E) (x 0), .list ((s.ls 0).map I) (x 1), .list ((s.ls 1).map I) (x 2), .list ((s.ls 2).map I) (x 3), .list ((s.ls 3).map I) (x 4), .list ((s.ls 4).map I) (x 5), .list ((s.ls 5).map I) (x 6), .list ((s.ls 6).map I) (x 7), .list ((s.ls 7).map I) (x 8), .list ((s.ls 8).map I) (x 9), .list ((s.ls 9).map I) (x 10), .list ((s.ls 10).map I) (x 11),
  I (s.pl 0), I (s.pl 1), I (s.pl 2), I (s.pl 3), I (s.pl 4), I (s.pl 5), I (s.pl 6), I (s.pl 7), I (s.pl 8), I (s.pl 9), I (s.pl 10), I (s.pl 11), I (s.pl 12), I (s.pl 13), I (s.pl 14), I (s.pl 15), I (s.pl 16), I (s.pl 17),
  I (s.gm 0), I (s.gm 1), I (s.gm 2), I (s.gm 3), I (s.gm 4), I (s.gm 5), I (s.gm 6)]
theorem wf_big {s : St} (h : ¬ big s 40) (hz : ∀ z, 11 ≤ z → s.ls z = []) : wf s := by
  unfold big at h
  refine ⟨by omega, fun z => ?_⟩
  rcases Nat.lt_or_ge z 11 with h1 | h1
  · rcases z with _|_|_|_|_|_|_|_|_|_|_|z <;> first | omega | (simp only [Nat.zero_add, Nat.reduceAdd] at *; omega)
  · rw [hz z h1]; simp
end Go.Abs.S22

/- Walks. -/
namespace Go.Abs.S22
open Go Go.Abs Go.Proofs

theorem Group_w : ∀ k (s : St) (n src ctl x2 x3 : Int) σ, wf s → 1000000 ≤ k → readW (callW Tryz.prog (exec Tryz.prog cfg k)) 13 [.agg (cS s), I n, .agg [I src, I ctl, I x2, I x3]] σ = some (.list ((grL s n ctl src).map I) false, σ) := by
 intro k s n src ctl x2 x3 σ h hk
 by_cases h0 : n < 0 ∨ n > 3
 · exact Group_o k s n src ctl x2 x3 σ h h0 hk
 · have : n = 0 ∨ n = 1 ∨ n = 2 ∨ n = 3 := by omega
   rcases this with rfl | rfl | rfl | rfl
   · exact Group_0 k s src ctl x2 x3 σ h hk
   · exact Group_1 k s src ctl x2 x3 σ h hk
   · exact Group_2 k s src ctl x2 x3 σ h hk
   · exact Group_3 k s src ctl x2 x3 σ h hk

theorem player_w : ∀ k (p : Int) σ, 60 ≤ k → readW (callW Tryz.prog (exec Tryz.prog cfg k)) 31 [I p] σ = some (.bool (decide (p = 0 ∨ p = 1)), σ) := by
 intro k p σ hk
 obtain ⟨k, rfl⟩ : ∃ k', k = k' + 60 := ⟨k - 60, by omega⟩
 refine reader_of Tryz.func31 rfl (by simp only [AV.frees, AV.free, fr_I, fr_E, fr_cO, fr_cL, fr_cS, Bool.and_self]) ?_
 refine X.seq (X.region (OK.seg 1 (by kernel_rfl) (OK.nil ?_)))
 refine X.seq (X.region (OK.seg 1 (by kernel_rfl) ?_))
 refine OK.dec (p = 0) (by kernel_rfl) (by kernel_rfl) (fun h1 => ?_) (fun h1 => ?_)
 ·
  refine OK.seg 5 (by kernel_rfl) (OK.nil ?_)
  refine X.ret ?_
  exact ⟨rfl, giv (r := .bool true) (by kernel_rfl) (bool_t (p := p = 0 ∨ p = 1) (by omega))⟩
 refine OK.seg 2 (by kernel_rfl) ?_
 refine OK.dec (p = 1) (by kernel_rfl) (by kernel_rfl) (fun h2 => ?_) (fun h2 => ?_)
 ·
  refine OK.seg 2 (by kernel_rfl) (OK.nil ?_)
  refine X.ret ?_
  exact ⟨rfl, giv (r := .bool true) (by kernel_rfl) (bool_t (p := p = 0 ∨ p = 1) (by omega))⟩
 refine OK.seg 2 (by kernel_rfl) (OK.nil ?_)
 refine X.ret ?_
 exact ⟨rfl, giv (r := .bool false) (by kernel_rfl) (bool_f (p := p = 0 ∨ p = 1) (by omega))⟩

theorem player_0 : ∀ k  σ, 60 ≤ k → readW (callW Tryz.prog (exec Tryz.prog cfg k)) 31 [I 0] σ = some (.bool true, σ) := by
  intro k  σ hk
  obtain ⟨k, rfl⟩ : ∃ k', k = k' + 60 := ⟨k - 60, by omega⟩
  kernel_rfl

theorem Foe_0 : ∀ k  σ, 60 ≤ k → readW (callW Tryz.prog (exec Tryz.prog cfg k)) 39 [I 0] σ = some (I 1, σ) := by
  intro k  σ hk
  obtain ⟨k, rfl⟩ : ∃ k', k = k' + 60 := ⟨k - 60, by omega⟩
  kernel_rfl

theorem player_1 : ∀ k  σ, 60 ≤ k → readW (callW Tryz.prog (exec Tryz.prog cfg k)) 31 [I 1] σ = some (.bool true, σ) := by
  intro k  σ hk
  obtain ⟨k, rfl⟩ : ∃ k', k = k' + 60 := ⟨k - 60, by omega⟩
  kernel_rfl

theorem Foe_1 : ∀ k  σ, 60 ≤ k → readW (callW Tryz.prog (exec Tryz.prog cfg k)) 39 [I 1] σ = some (I 0, σ) := by
  intro k  σ hk
  obtain ⟨k, rfl⟩ : ∃ k', k = k' + 60 := ⟨k - 60, by omega⟩
  kernel_rfl

set_option maxHeartbeats 1000000 in
theorem Holds_0 : ∀ k (s : St) (op n m who : Int) (subs : List AV) σ, wf s → AV.frees subs = true → 1500000 ≤ k → readW (callW Tryz.prog (exec Tryz.prog cfg k)) 14 [.agg (cS s), .agg [I op, I n, I m, I who, .list subs false], I 0] σ = some (.bool (decide (hold s n m 0)), σ) := by
 intro k s op n m who subs σ hyp0 hyp1 hk
 obtain ⟨k, rfl⟩ : ∃ k', k = k' + 60 := ⟨k - 60, by omega⟩
 have hw1 := hyp0.1
 have hw2 := hyp0.2
 have hlm : ((s.objs).map E).length = s.objs.length := List.length_map _
 have hll : ∀ z, ((s.ls z).map I).length = (s.ls z).length := fun z => List.length_map _
 have hl2 := hll 2; have hl3 := hll 3
 have hb0 : ((bea s 0).map I).length = (bea s 0).length := List.length_map _
 have hb1 : ((bea s 1).map I).length = (bea s 1).length := List.length_map _
 have hsub := hyp1
 refine reader_of Tryz.func14 rfl (by simp only [AV.frees, AV.free, fr_I, fr_E, fr_cO, fr_cL, fr_cS, hsub, Bool.and_self]) ?_
 refine X.seq (X.region (OK.seg 3 (by kernel_rfl) (OK.nil ?_)))
 refine X.seq (X.seq (X.region (OK.seg 1 (by kernel_rfl) ?_)))
 refine OK.rd [I 0] [I 0] (.bool true) rfl (by kernel_rfl) rfl (by kernel_rfl) (by kernel_rfl) (by kernel_rfl) (by kernel_rfl) (by kernel_rfl) (player_0 _ _ (by omega)) ?_
 refine OK.seg 3 (by kernel_rfl) ?_
 refine OK.rd [.agg (cS s)] [.agg (cS s)] (errS s) rfl (by kernel_rfl) rfl (by kernel_rfl) (by kernel_rfl) (by kernel_rfl) (by kernel_rfl) (by kernel_rfl) (Check_w _ _ _ hyp0 (by omega)) ?_
 rcases errS_cases s with ⟨hRh1, heh1⟩ | ⟨hRh1, vh1, heh1⟩ <;> rw [heh1]
 rotate_left
 ·
  refine OK.seg 2 (by kernel_rfl) (OK.nil ?_)
  refine X.condT (by kernel_rfl) ?_
  refine X.seq (X.region (OK.seg 1 (by kernel_rfl) (OK.nil ?_)))
  refine X.ret ?_
  exact ⟨rfl, giv (r := .bool false) (by kernel_rfl) (bool_f (p := hold s n m 0) (by intro hh; rcases hh with ⟨q0, q1, q2⟩ | ⟨q0, q1, q2⟩ <;> first | contradiction | omega))⟩
 refine OK.seg 2 (by kernel_rfl) (OK.nil ?_)
 refine X.condF (by kernel_rfl) ?_
 refine X.skip (X.seq (X.seq (X.region (OK.seg 2 (by kernel_rfl) (OK.nil ?_)))))
 refine X.block (X.seq (X.region ?_))
 refine OK.dec (n = 0) (by kernel_rfl) (by kernel_rfl) (fun h3 => ?_) (fun h3 => ?_)
 ·
  refine OK.seg 1 (by kernel_rfl) (OK.nil ?_)
  refine X.condT (by kernel_rfl) ?_
  refine X.seq (X.draw (by kernel_rfl) (by kernel_rfl) (by kernel_rfl) ?_)
  refine DK.seg 7 (by kernel_rfl) ?_
  refine DK.dec ((s.pl 0) ≤ m) (by kernel_rfl) (by kernel_rfl) (fun h4 => ?_) (fun h4 => ?_)
  ·
   refine DK.seg 1 (by kernel_rfl) (DK.nil ?_)
   refine X.ret ?_
   exact ⟨rfl, giv (r := .bool true) (by kernel_rfl) (bool_t (p := hold s n m 0) (by exact .inl ⟨rfl, by assumption, by omega⟩))⟩
  refine DK.seg 1 (by kernel_rfl) (DK.nil ?_)
  refine X.ret ?_
  exact ⟨rfl, giv (r := .bool false) (by kernel_rfl) (bool_f (p := hold s n m 0) (by intro hh; rcases hh with ⟨q0, q1, q2⟩ | ⟨q0, q1, q2⟩ <;> first | contradiction | omega))⟩
 refine OK.seg 1 (by kernel_rfl) (OK.nil ?_)
 refine X.condF (by kernel_rfl) ?_
 refine X.seq (X.region ?_)
 refine OK.dec (n = 1) (by kernel_rfl) (by kernel_rfl) (fun h5 => ?_) (fun h5 => ?_)
 ·
  refine OK.seg 1 (by kernel_rfl) (OK.nil ?_)
  refine X.condT (by kernel_rfl) ?_
  refine X.seq (X.draw (by kernel_rfl) (by kernel_rfl) (by kernel_rfl) ?_)
  refine DK.seg 2 (by kernel_rfl) ?_
  refine DK.rd [.agg (cS s), I 0] [.agg (cS s), I 0] (.list ((bea s 0).map I) false) rfl (by kernel_rfl) rfl (by kernel_rfl) (by kernel_rfl) (by kernel_rfl) (by kernel_rfl) (by kernel_rfl) (Beasts_w _ _ _ _ hyp0 (by omega)) ?_
  refine DK.seg 3 (by kernel_rfl) ?_
  refine DK.dec (((((bea s 0).map I).length : Nat) : Int) ≥ m) (by kernel_rfl) (by kernel_rfl) (fun h6 => ?_) (fun h6 => ?_)
  ·
   refine DK.seg 1 (by kernel_rfl) (DK.nil ?_)
   refine X.ret ?_
   exact ⟨rfl, giv (r := .bool true) (by kernel_rfl) (bool_t (p := hold s n m 0) (by exact .inl ⟨rfl, by assumption, by omega⟩))⟩
  refine DK.seg 1 (by kernel_rfl) (DK.nil ?_)
  refine X.ret ?_
  exact ⟨rfl, giv (r := .bool false) (by kernel_rfl) (bool_f (p := hold s n m 0) (by intro hh; rcases hh with ⟨q0, q1, q2⟩ | ⟨q0, q1, q2⟩ <;> first | contradiction | omega))⟩
 refine OK.seg 1 (by kernel_rfl) (OK.nil ?_)
 refine X.condF (by kernel_rfl) ?_
 refine X.seq (X.region ?_)
 refine OK.dec (n = 2) (by kernel_rfl) (by kernel_rfl) (fun h7 => ?_) (fun h7 => ?_)
 rotate_left
 ·
  refine OK.seg 1 (by kernel_rfl) (OK.nil ?_)
  refine X.condF (by kernel_rfl) ?_
  refine X.skip (X.seq (X.region (OK.seg 1 (by kernel_rfl) (OK.nil ?_))))
  refine X.ret ?_
  exact ⟨rfl, giv (r := .bool false) (by kernel_rfl) (bool_f (p := hold s n m 0) (by intro hh; rcases hh with ⟨q0, q1, q2⟩ | ⟨q0, q1, q2⟩ <;> first | contradiction | omega))⟩
 refine OK.seg 1 (by kernel_rfl) (OK.nil ?_)
 refine X.condT (by kernel_rfl) ?_
 refine X.seq (X.draw (by kernel_rfl) (by kernel_rfl) (by kernel_rfl) ?_)
 refine DK.seg 1 (by kernel_rfl) ?_
 refine DK.rd [I 0] [I 0] (I 1) rfl (by kernel_rfl) rfl (by kernel_rfl) (by kernel_rfl) (by kernel_rfl) (by kernel_rfl) (by kernel_rfl) (Foe_0 _ _ (by omega)) ?_
 refine DK.seg 7 (by kernel_rfl) ?_
 refine DK.dec (((((s.ls 3).map I).length : Nat) : Int) ≥ m) (by kernel_rfl) (by kernel_rfl) (fun h8 => ?_) (fun h8 => ?_)
 ·
  refine DK.seg 1 (by kernel_rfl) (DK.nil ?_)
  refine X.ret ?_
  exact ⟨rfl, giv (r := .bool true) (by kernel_rfl) (bool_t (p := hold s n m 0) (by exact .inl ⟨rfl, by assumption, by omega⟩))⟩
 refine DK.seg 1 (by kernel_rfl) (DK.nil ?_)
 refine X.ret ?_
 exact ⟨rfl, giv (r := .bool false) (by kernel_rfl) (bool_f (p := hold s n m 0) (by intro hh; rcases hh with ⟨q0, q1, q2⟩ | ⟨q0, q1, q2⟩ <;> first | contradiction | omega))⟩

set_option maxHeartbeats 1000000 in
theorem Holds_1 : ∀ k (s : St) (op n m who : Int) (subs : List AV) σ, wf s → AV.frees subs = true → 1500000 ≤ k → readW (callW Tryz.prog (exec Tryz.prog cfg k)) 14 [.agg (cS s), .agg [I op, I n, I m, I who, .list subs false], I 1] σ = some (.bool (decide (hold s n m 1)), σ) := by
 intro k s op n m who subs σ hyp0 hyp1 hk
 obtain ⟨k, rfl⟩ : ∃ k', k = k' + 60 := ⟨k - 60, by omega⟩
 have hw1 := hyp0.1
 have hw2 := hyp0.2
 have hlm : ((s.objs).map E).length = s.objs.length := List.length_map _
 have hll : ∀ z, ((s.ls z).map I).length = (s.ls z).length := fun z => List.length_map _
 have hl2 := hll 2; have hl3 := hll 3
 have hb0 : ((bea s 0).map I).length = (bea s 0).length := List.length_map _
 have hb1 : ((bea s 1).map I).length = (bea s 1).length := List.length_map _
 have hsub := hyp1
 refine reader_of Tryz.func14 rfl (by simp only [AV.frees, AV.free, fr_I, fr_E, fr_cO, fr_cL, fr_cS, hsub, Bool.and_self]) ?_
 refine X.seq (X.region (OK.seg 3 (by kernel_rfl) (OK.nil ?_)))
 refine X.seq (X.seq (X.region (OK.seg 1 (by kernel_rfl) ?_)))
 refine OK.rd [I 1] [I 1] (.bool true) rfl (by kernel_rfl) rfl (by kernel_rfl) (by kernel_rfl) (by kernel_rfl) (by kernel_rfl) (by kernel_rfl) (player_1 _ _ (by omega)) ?_
 refine OK.seg 3 (by kernel_rfl) ?_
 refine OK.rd [.agg (cS s)] [.agg (cS s)] (errS s) rfl (by kernel_rfl) rfl (by kernel_rfl) (by kernel_rfl) (by kernel_rfl) (by kernel_rfl) (by kernel_rfl) (Check_w _ _ _ hyp0 (by omega)) ?_
 rcases errS_cases s with ⟨hRh1, heh1⟩ | ⟨hRh1, vh1, heh1⟩ <;> rw [heh1]
 rotate_left
 ·
  refine OK.seg 2 (by kernel_rfl) (OK.nil ?_)
  refine X.condT (by kernel_rfl) ?_
  refine X.seq (X.region (OK.seg 1 (by kernel_rfl) (OK.nil ?_)))
  refine X.ret ?_
  exact ⟨rfl, giv (r := .bool false) (by kernel_rfl) (bool_f (p := hold s n m 1) (by intro hh; rcases hh with ⟨q0, q1, q2⟩ | ⟨q0, q1, q2⟩ <;> first | contradiction | omega))⟩
 refine OK.seg 2 (by kernel_rfl) (OK.nil ?_)
 refine X.condF (by kernel_rfl) ?_
 refine X.skip (X.seq (X.seq (X.region (OK.seg 2 (by kernel_rfl) (OK.nil ?_)))))
 refine X.block (X.seq (X.region ?_))
 refine OK.dec (n = 0) (by kernel_rfl) (by kernel_rfl) (fun h3 => ?_) (fun h3 => ?_)
 ·
  refine OK.seg 1 (by kernel_rfl) (OK.nil ?_)
  refine X.condT (by kernel_rfl) ?_
  refine X.seq (X.draw (by kernel_rfl) (by kernel_rfl) (by kernel_rfl) ?_)
  refine DK.seg 7 (by kernel_rfl) ?_
  refine DK.dec ((s.pl 9) ≤ m) (by kernel_rfl) (by kernel_rfl) (fun h4 => ?_) (fun h4 => ?_)
  ·
   refine DK.seg 1 (by kernel_rfl) (DK.nil ?_)
   refine X.ret ?_
   exact ⟨rfl, giv (r := .bool true) (by kernel_rfl) (bool_t (p := hold s n m 1) (by exact .inr ⟨rfl, by assumption, by omega⟩))⟩
  refine DK.seg 1 (by kernel_rfl) (DK.nil ?_)
  refine X.ret ?_
  exact ⟨rfl, giv (r := .bool false) (by kernel_rfl) (bool_f (p := hold s n m 1) (by intro hh; rcases hh with ⟨q0, q1, q2⟩ | ⟨q0, q1, q2⟩ <;> first | contradiction | omega))⟩
 refine OK.seg 1 (by kernel_rfl) (OK.nil ?_)
 refine X.condF (by kernel_rfl) ?_
 refine X.seq (X.region ?_)
 refine OK.dec (n = 1) (by kernel_rfl) (by kernel_rfl) (fun h5 => ?_) (fun h5 => ?_)
 ·
  refine OK.seg 1 (by kernel_rfl) (OK.nil ?_)
  refine X.condT (by kernel_rfl) ?_
  refine X.seq (X.draw (by kernel_rfl) (by kernel_rfl) (by kernel_rfl) ?_)
  refine DK.seg 2 (by kernel_rfl) ?_
  refine DK.rd [.agg (cS s), I 1] [.agg (cS s), I 1] (.list ((bea s 1).map I) false) rfl (by kernel_rfl) rfl (by kernel_rfl) (by kernel_rfl) (by kernel_rfl) (by kernel_rfl) (by kernel_rfl) (Beasts_w _ _ _ _ hyp0 (by omega)) ?_
  refine DK.seg 3 (by kernel_rfl) ?_
  refine DK.dec (((((bea s 1).map I).length : Nat) : Int) ≥ m) (by kernel_rfl) (by kernel_rfl) (fun h6 => ?_) (fun h6 => ?_)
  ·
   refine DK.seg 1 (by kernel_rfl) (DK.nil ?_)
   refine X.ret ?_
   exact ⟨rfl, giv (r := .bool true) (by kernel_rfl) (bool_t (p := hold s n m 1) (by exact .inr ⟨rfl, by assumption, by omega⟩))⟩
  refine DK.seg 1 (by kernel_rfl) (DK.nil ?_)
  refine X.ret ?_
  exact ⟨rfl, giv (r := .bool false) (by kernel_rfl) (bool_f (p := hold s n m 1) (by intro hh; rcases hh with ⟨q0, q1, q2⟩ | ⟨q0, q1, q2⟩ <;> first | contradiction | omega))⟩
 refine OK.seg 1 (by kernel_rfl) (OK.nil ?_)
 refine X.condF (by kernel_rfl) ?_
 refine X.seq (X.region ?_)
 refine OK.dec (n = 2) (by kernel_rfl) (by kernel_rfl) (fun h7 => ?_) (fun h7 => ?_)
 rotate_left
 ·
  refine OK.seg 1 (by kernel_rfl) (OK.nil ?_)
  refine X.condF (by kernel_rfl) ?_
  refine X.skip (X.seq (X.region (OK.seg 1 (by kernel_rfl) (OK.nil ?_))))
  refine X.ret ?_
  exact ⟨rfl, giv (r := .bool false) (by kernel_rfl) (bool_f (p := hold s n m 1) (by intro hh; rcases hh with ⟨q0, q1, q2⟩ | ⟨q0, q1, q2⟩ <;> first | contradiction | omega))⟩
 refine OK.seg 1 (by kernel_rfl) (OK.nil ?_)
 refine X.condT (by kernel_rfl) ?_
 refine X.seq (X.draw (by kernel_rfl) (by kernel_rfl) (by kernel_rfl) ?_)
 refine DK.seg 1 (by kernel_rfl) ?_
 refine DK.rd [I 1] [I 1] (I 0) rfl (by kernel_rfl) rfl (by kernel_rfl) (by kernel_rfl) (by kernel_rfl) (by kernel_rfl) (by kernel_rfl) (Foe_1 _ _ (by omega)) ?_
 refine DK.seg 7 (by kernel_rfl) ?_
 refine DK.dec (((((s.ls 2).map I).length : Nat) : Int) ≥ m) (by kernel_rfl) (by kernel_rfl) (fun h8 => ?_) (fun h8 => ?_)
 ·
  refine DK.seg 1 (by kernel_rfl) (DK.nil ?_)
  refine X.ret ?_
  exact ⟨rfl, giv (r := .bool true) (by kernel_rfl) (bool_t (p := hold s n m 1) (by exact .inr ⟨rfl, by assumption, by omega⟩))⟩
 refine DK.seg 1 (by kernel_rfl) (DK.nil ?_)
 refine X.ret ?_
 exact ⟨rfl, giv (r := .bool false) (by kernel_rfl) (bool_f (p := hold s n m 1) (by intro hh; rcases hh with ⟨q0, q1, q2⟩ | ⟨q0, q1, q2⟩ <;> first | contradiction | omega))⟩

set_option maxHeartbeats 1000000 in
theorem Holds_o : ∀ k (s : St) (op n m who : Int) (subs : List AV) (p : Int) σ, wf s → AV.frees subs = true → ¬ (p = 0 ∨ p = 1) → 1500000 ≤ k → readW (callW Tryz.prog (exec Tryz.prog cfg k)) 14 [.agg (cS s), .agg [I op, I n, I m, I who, .list subs false], I p] σ = some (.bool (decide (hold s n m p)), σ) := by
 intro k s op n m who subs p σ hyp0 hyp1 hyp2 hk
 obtain ⟨k, rfl⟩ : ∃ k', k = k' + 60 := ⟨k - 60, by omega⟩
 have hw1 := hyp0.1
 have hw2 := hyp0.2
 have hlm : ((s.objs).map E).length = s.objs.length := List.length_map _
 have hll : ∀ z, ((s.ls z).map I).length = (s.ls z).length := fun z => List.length_map _
 have hl2 := hll 2; have hl3 := hll 3
 have hb0 : ((bea s 0).map I).length = (bea s 0).length := List.length_map _
 have hb1 : ((bea s 1).map I).length = (bea s 1).length := List.length_map _
 have hsub := hyp1
 refine reader_of Tryz.func14 rfl (by simp only [AV.frees, AV.free, fr_I, fr_E, fr_cO, fr_cL, fr_cS, hsub, Bool.and_self]) ?_
 refine X.seq (X.region (OK.seg 3 (by kernel_rfl) (OK.nil ?_)))
 refine X.seq (X.seq (X.region (OK.seg 1 (by kernel_rfl) ?_)))
 refine OK.rdP [I p] [I p] (p = 0 ∨ p = 1) rfl (by kernel_rfl) rfl (by kernel_rfl) (by kernel_rfl) (by kernel_rfl) (by kernel_rfl) (by kernel_rfl) (player_w _ _ _ (by omega)) (fun h1 => ?_) (fun h1 => ?_)
 · exfalso; omega
 refine OK.seg 6 (by kernel_rfl) (OK.nil ?_)
 refine X.condT (by kernel_rfl) ?_
 refine X.seq (X.region (OK.seg 1 (by kernel_rfl) (OK.nil ?_)))
 refine X.ret ?_
 exact ⟨rfl, giv (r := .bool false) (by kernel_rfl) (bool_f (p := hold s n m p) (by intro hh; rcases hh with ⟨q0, q1, q2⟩ | ⟨q0, q1, q2⟩ <;> omega))⟩

theorem Holds_w : ∀ k (s : St) (op n m who : Int) (subs : List AV) (p : Int) σ, wf s → AV.frees subs = true → 1500000 ≤ k → readW (callW Tryz.prog (exec Tryz.prog cfg k)) 14 [.agg (cS s), .agg [I op, I n, I m, I who, .list subs false], I p] σ = some (.bool (decide (hold s n m p)), σ) := by
 intro k s op n m who subs p σ h hs hk
 by_cases h0 : p = 0 ∨ p = 1
 · rcases h0 with rfl | rfl
   · exact Holds_0 k s op n m who subs σ h hs hk
   · exact Holds_1 k s op n m who subs σ h hs hk
 · exact Holds_o k s op n m who subs p σ h hs h0 hk

set_option maxHeartbeats 1000000 in
theorem rHolds_0 : ∀ k (s : St) (op n m who : Int) (subs : List AV) σ, wf s → AV.frees subs = true → 1500000 ≤ k → readW (callW Tryz.prog (exec Tryz.prog cfg k)) 15 [.agg (cS s), .agg [I op, I n, I m, I who, .list subs false], I 0] σ = some (.bool (decide (hold s n m 0)), σ) := by
 intro k s op n m who subs σ hyp0 hyp1 hk
 obtain ⟨k, rfl⟩ : ∃ k', k = k' + 60 := ⟨k - 60, by omega⟩
 have hw1 := hyp0.1
 have hw2 := hyp0.2
 have hlm : ((s.objs).map E).length = s.objs.length := List.length_map _
 have hll : ∀ z, ((s.ls z).map I).length = (s.ls z).length := fun z => List.length_map _
 have hl2 := hll 2; have hl3 := hll 3
 have hb0 : ((bea s 0).map I).length = (bea s 0).length := List.length_map _
 have hb1 : ((bea s 1).map I).length = (bea s 1).length := List.length_map _
 have hsub := hyp1
 refine reader_of Tryz.func15 rfl (by simp only [AV.frees, AV.free, fr_I, fr_E, fr_cO, fr_cL, fr_cS, hsub, Bool.and_self]) ?_
 refine X.seq (X.region (OK.seg 3 (by kernel_rfl) (OK.nil ?_)))
 refine X.seq (X.seq (X.region (OK.seg 8 (by kernel_rfl) ?_)))
 refine OK.rd [.agg (cS s)] [.agg (cS s)] (I (numS s)) rfl (by kernel_rfl) rfl (by kernel_rfl) (by kernel_rfl) (by kernel_rfl) (by kernel_rfl) (by kernel_rfl) (rCheck_w _ _ _ hyp0 (by omega)) ?_
 refine OK.ndec ((numS s) = 0) (by kernel_rfl) (by kernel_rfl) (fun h1 => ?_) (fun h1 => ?_)
 ·
  refine OK.seg 1 (by kernel_rfl) (OK.nil ?_)
  refine X.condT (by kernel_rfl) ?_
  refine X.seq (X.region (OK.seg 1 (by kernel_rfl) (OK.nil ?_)))
  refine X.ret ?_
  exact ⟨rfl, giv (r := .bool false) (by kernel_rfl) (bool_f (p := hold s n m 0) (by intro hh; rcases hh with ⟨q0, q1, q2⟩ | ⟨q0, q1, q2⟩ <;> first | contradiction | omega))⟩
 refine OK.seg 1 (by kernel_rfl) (OK.nil ?_)
 refine X.condF (by kernel_rfl) ?_
 refine X.skip (X.seq (X.draw (by kernel_rfl) (by kernel_rfl) (by kernel_rfl) ?_))
 refine DK.seg 2 (by kernel_rfl) ?_
 refine DK.dec (n = 0) (by kernel_rfl) (by kernel_rfl) (fun h2 => ?_) (fun h2 => ?_)
 rotate_left
 ·
  refine DK.segE 13 ([.agg (cS s), .agg [I op, I n, I m, I who, .list subs false], I 0, .ptr 0 0, .ptr 1 0, undefA, .bool false, I 0, .bool false, .bool false, undefA, undefA, .bool false, .bool false, .agg (cS s), I (numS s), .bool false, .bool false, .ptr 1 1, I n, .bool false, .bool false] ++ List.replicate 8 undefA ++ [.bool false, .bool false, .ptr 1 1, I n] ++ List.replicate 27 undefA : List AV) [.box (cS s) false, .box [I op, I n, I m, I who, .list subs false] false] (by kernel_rfl) ?_
  refine DK.dec (n = 1) (by kernel_rfl) (by kernel_rfl) (fun h10 => ?_) (fun h10 => ?_)
  rotate_left
  ·
   refine DK.segE 13 ([.agg (cS s), .agg [I op, I n, I m, I who, .list subs false], I 0, .ptr 0 0, .ptr 1 0, undefA, .bool false, I 0, .bool false, .bool false, undefA, undefA, .bool false, .bool false, .agg (cS s), I (numS s), .bool false, .bool false, .ptr 1 1, I n, .bool false, .bool false] ++ List.replicate 8 undefA ++ [.bool false, .bool false, .ptr 1 1, I n, .bool false, .bool false] ++ List.replicate 7 undefA ++ [.bool false, .bool false, .bool false, .ptr 1 1, I n] ++ List.replicate 13 undefA : List AV) [.box (cS s) false, .box [I op, I n, I m, I who, .list subs false] false] (by kernel_rfl) ?_
   refine DK.dec (n = 2) (by kernel_rfl) (by kernel_rfl) (fun h14 => ?_) (fun h14 => ?_)
   ·
    refine DK.seg 9 (by kernel_rfl) ?_
    refine DK.dec (((((s.ls 3).map I).length : Nat) : Int) ≥ m) (by kernel_rfl) (by kernel_rfl) (fun h15 => ?_) (fun h15 => ?_)
    ·
     refine DK.seg 3 (by kernel_rfl) (DK.nil ?_)
     refine X.ret ?_
     exact ⟨rfl, giv (r := .bool true) (by kernel_rfl) (bool_t (p := hold s n m 0) (by exact .inl ⟨rfl, by assumption, by omega⟩))⟩
    refine DK.seg 3 (by kernel_rfl) (DK.nil ?_)
    refine X.ret ?_
    exact ⟨rfl, giv (r := .bool false) (by kernel_rfl) (bool_f (p := hold s n m 0) (by intro hh; rcases hh with ⟨q0, q1, q2⟩ | ⟨q0, q1, q2⟩ <;> first | contradiction | omega))⟩
   refine DK.segE 13 ([.agg (cS s), .agg [I op, I n, I m, I who, .list subs false], I 0, .ptr 0 0, .ptr 1 0, undefA, .bool false, I 0, .bool false, .bool false, undefA, undefA, .bool false, .bool false, .agg (cS s), I (numS s), .bool false, .bool false, .ptr 1 1, I n, .bool false, .bool false] ++ List.replicate 8 undefA ++ [.bool false, .bool false, .ptr 1 1, I n, .bool false, .bool false] ++ List.replicate 7 undefA ++ [.bool false, .bool false, .bool false, .ptr 1 1, I n, .bool false, .bool false] ++ List.replicate 9 undefA ++ [.bool false, .bool false] : List AV) [.box (cS s) false, .box [I op, I n, I m, I who, .list subs false] false] (by kernel_rfl) (DK.nil ?_)
   refine X.ret ?_
   exact ⟨rfl, giv (r := .bool false) (by kernel_rfl) (bool_f (p := hold s n m 0) (by intro hh; rcases hh with ⟨q0, q1, q2⟩ | ⟨q0, q1, q2⟩ <;> first | contradiction | omega))⟩
  refine DK.seg 3 (by kernel_rfl) ?_
  refine DK.rd [.agg (cS s), I 0] [.agg (cS s), I 0] (.list ((bea s 0).map I) false) rfl (by kernel_rfl) rfl (by kernel_rfl) (by kernel_rfl) (by kernel_rfl) (by kernel_rfl) (by kernel_rfl) (rBeasts_w _ _ _ _ hyp0 (by assumption) (by omega)) ?_
  refine DK.seg 3 (by kernel_rfl) ?_
  refine DK.dec (((((bea s 0).map I).length : Nat) : Int) ≥ m) (by kernel_rfl) (by kernel_rfl) (fun h11 => ?_) (fun h11 => ?_)
  ·
   refine DK.segE 19 ([.agg (cS s), .agg [I op, I n, I m, I who, .list subs false], I 0, .ptr 0 0, .ptr 1 0, undefA, .bool true, I 0, .bool false, .bool false, undefA, undefA, .bool false, .bool false, .agg (cS s), I (numS s), .bool false, .bool false, .ptr 1 1, I n, .bool false, .bool false] ++ List.replicate 8 undefA ++ [.bool false, .bool false, .ptr 1 1, I n, .bool true, .bool true, .agg (cS s), I 0, .list ((bea s 0).map I) false, I ((((bea s 0).map I).length : Nat) : Int), .ptr 1 2, I m, .bool true, .bool true, .bool true, .bool true] ++ List.replicate 14 undefA ++ [.bool true] : List AV) [.box (cS s) false, .box [I op, I n, I m, I who, .list subs false] false] (by kernel_rfl) (DK.nil ?_)
   refine X.ret ?_
   exact ⟨rfl, giv (r := .bool true) (by kernel_rfl) (bool_t (p := hold s n m 0) (by exact .inl ⟨rfl, by assumption, by omega⟩))⟩
  refine DK.seg 5 (by kernel_rfl) ?_
  refine DK.dec (n = 2) (by kernel_rfl) (by kernel_rfl) (fun h12 => ?_) (fun h12 => ?_)
  ·
   refine DK.seg 9 (by kernel_rfl) ?_
   refine DK.dec (((((s.ls 3).map I).length : Nat) : Int) ≥ m) (by kernel_rfl) (by kernel_rfl) (fun h13 => ?_) (fun h13 => ?_)
   ·
    refine DK.seg 3 (by kernel_rfl) (DK.nil ?_)
    refine X.ret ?_
    exact ⟨rfl, giv (r := .bool true) (by kernel_rfl) (bool_t (p := hold s n m 0) (by exact .inl ⟨rfl, by assumption, by omega⟩))⟩
   refine DK.seg 3 (by kernel_rfl) (DK.nil ?_)
   refine X.ret ?_
   exact ⟨rfl, giv (r := .bool false) (by kernel_rfl) (bool_f (p := hold s n m 0) (by intro hh; rcases hh with ⟨q0, q1, q2⟩ | ⟨q0, q1, q2⟩ <;> first | contradiction | omega))⟩
  refine DK.segE 13 ([.agg (cS s), .agg [I op, I n, I m, I who, .list subs false], I 0, .ptr 0 0, .ptr 1 0, undefA, .bool false, I 0, .bool false, .bool false, undefA, undefA, .bool false, .bool false, .agg (cS s), I (numS s), .bool false, .bool false, .ptr 1 1, I n, .bool false, .bool false] ++ List.replicate 8 undefA ++ [.bool false, .bool false, .ptr 1 1, I n, .bool true, .bool true, .agg (cS s), I 0, .list ((bea s 0).map I) false, I ((((bea s 0).map I).length : Nat) : Int), .ptr 1 2, I m, .bool false, .bool false, .bool false, .bool false, .ptr 1 1, I n, .bool false, .bool false] ++ List.replicate 9 undefA ++ [.bool false, .bool false] : List AV) [.box (cS s) false, .box [I op, I n, I m, I who, .list subs false] false] (by kernel_rfl) (DK.nil ?_)
  refine X.ret ?_
  exact ⟨rfl, giv (r := .bool false) (by kernel_rfl) (bool_f (p := hold s n m 0) (by intro hh; rcases hh with ⟨q0, q1, q2⟩ | ⟨q0, q1, q2⟩ <;> first | contradiction | omega))⟩
 refine DK.seg 8 (by kernel_rfl) ?_
 refine DK.dec ((s.pl 0) ≤ m) (by kernel_rfl) (by kernel_rfl) (fun h3 => ?_) (fun h3 => ?_)
 ·
  refine DK.segE 32 ([.agg (cS s), .agg [I op, I n, I m, I who, .list subs false], I 0, .ptr 0 0, .ptr 1 0, undefA, .bool true, I 0, .bool false, .bool false, undefA, undefA, .bool false, .bool false, .agg (cS s), I (numS s), .bool false, .bool false, .ptr 1 1, I n, .bool true, .bool true, I 0, .ptr 0 12, .ptr 0 12, .ptr 0 12, I (s.pl 0), .ptr 1 2, I m, .bool true, .bool true, .bool true] ++ List.replicate 12 undefA ++ [.bool true, .bool true] ++ List.replicate 14 undefA ++ [.bool true] : List AV) [.box (cS s) false, .box [I op, I n, I m, I who, .list subs false] false] (by kernel_rfl) (DK.nil ?_)
  refine X.ret ?_
  exact ⟨rfl, giv (r := .bool true) (by kernel_rfl) (bool_t (p := hold s n m 0) (by exact .inl ⟨rfl, by assumption, by omega⟩))⟩
 refine DK.seg 4 (by kernel_rfl) ?_
 refine DK.dec (n = 1) (by kernel_rfl) (by kernel_rfl) (fun h4 => ?_) (fun h4 => ?_)
 rotate_left
 ·
  refine DK.segE 13 ([.agg (cS s), .agg [I op, I n, I m, I who, .list subs false], I 0, .ptr 0 0, .ptr 1 0, undefA, .bool false, I 0, .bool false, .bool false, undefA, undefA, .bool false, .bool false, .agg (cS s), I (numS s), .bool false, .bool false, .ptr 1 1, I n, .bool true, .bool true, I 0, .ptr 0 12, .ptr 0 12, .ptr 0 12, I (s.pl 0), .ptr 1 2, I m, .bool false, .bool false, .bool false, .ptr 1 1, I n, .bool false, .bool false] ++ List.replicate 7 undefA ++ [.bool false, .bool false, .bool false, .ptr 1 1, I n] ++ List.replicate 13 undefA : List AV) [.box (cS s) false, .box [I op, I n, I m, I who, .list subs false] false] (by kernel_rfl) ?_
  refine DK.dec (n = 2) (by kernel_rfl) (by kernel_rfl) (fun h8 => ?_) (fun h8 => ?_)
  ·
   refine DK.seg 9 (by kernel_rfl) ?_
   refine DK.dec (((((s.ls 3).map I).length : Nat) : Int) ≥ m) (by kernel_rfl) (by kernel_rfl) (fun h9 => ?_) (fun h9 => ?_)
   ·
    refine DK.seg 3 (by kernel_rfl) (DK.nil ?_)
    refine X.ret ?_
    exact ⟨rfl, giv (r := .bool true) (by kernel_rfl) (bool_t (p := hold s n m 0) (by exact .inl ⟨rfl, by assumption, by omega⟩))⟩
   refine DK.seg 3 (by kernel_rfl) (DK.nil ?_)
   refine X.ret ?_
   exact ⟨rfl, giv (r := .bool false) (by kernel_rfl) (bool_f (p := hold s n m 0) (by intro hh; rcases hh with ⟨q0, q1, q2⟩ | ⟨q0, q1, q2⟩ <;> first | contradiction | omega))⟩
  refine DK.segE 13 ([.agg (cS s), .agg [I op, I n, I m, I who, .list subs false], I 0, .ptr 0 0, .ptr 1 0, undefA, .bool false, I 0, .bool false, .bool false, undefA, undefA, .bool false, .bool false, .agg (cS s), I (numS s), .bool false, .bool false, .ptr 1 1, I n, .bool true, .bool true, I 0, .ptr 0 12, .ptr 0 12, .ptr 0 12, I (s.pl 0), .ptr 1 2, I m, .bool false, .bool false, .bool false, .ptr 1 1, I n, .bool false, .bool false] ++ List.replicate 7 undefA ++ [.bool false, .bool false, .bool false, .ptr 1 1, I n, .bool false, .bool false] ++ List.replicate 9 undefA ++ [.bool false, .bool false] : List AV) [.box (cS s) false, .box [I op, I n, I m, I who, .list subs false] false] (by kernel_rfl) (DK.nil ?_)
  refine X.ret ?_
  exact ⟨rfl, giv (r := .bool false) (by kernel_rfl) (bool_f (p := hold s n m 0) (by intro hh; rcases hh with ⟨q0, q1, q2⟩ | ⟨q0, q1, q2⟩ <;> first | contradiction | omega))⟩
 refine DK.seg 3 (by kernel_rfl) ?_
 refine DK.rd [.agg (cS s), I 0] [.agg (cS s), I 0] (.list ((bea s 0).map I) false) rfl (by kernel_rfl) rfl (by kernel_rfl) (by kernel_rfl) (by kernel_rfl) (by kernel_rfl) (by kernel_rfl) (rBeasts_w _ _ _ _ hyp0 (by assumption) (by omega)) ?_
 refine DK.seg 3 (by kernel_rfl) ?_
 refine DK.dec (((((bea s 0).map I).length : Nat) : Int) ≥ m) (by kernel_rfl) (by kernel_rfl) (fun h5 => ?_) (fun h5 => ?_)
 ·
  refine DK.segE 19 ([.agg (cS s), .agg [I op, I n, I m, I who, .list subs false], I 0, .ptr 0 0, .ptr 1 0, undefA, .bool true, I 0, .bool false, .bool false, undefA, undefA, .bool false, .bool false, .agg (cS s), I (numS s), .bool false, .bool false, .ptr 1 1, I n, .bool true, .bool true, I 0, .ptr 0 12, .ptr 0 12, .ptr 0 12, I (s.pl 0), .ptr 1 2, I m, .bool false, .bool false, .bool false, .ptr 1 1, I n, .bool true, .bool true, .agg (cS s), I 0, .list ((bea s 0).map I) false, I ((((bea s 0).map I).length : Nat) : Int), .ptr 1 2, I m, .bool true, .bool true, .bool true, .bool true] ++ List.replicate 14 undefA ++ [.bool true] : List AV) [.box (cS s) false, .box [I op, I n, I m, I who, .list subs false] false] (by kernel_rfl) (DK.nil ?_)
  refine X.ret ?_
  exact ⟨rfl, giv (r := .bool true) (by kernel_rfl) (bool_t (p := hold s n m 0) (by exact .inl ⟨rfl, by assumption, by omega⟩))⟩
 refine DK.seg 5 (by kernel_rfl) ?_
 refine DK.dec (n = 2) (by kernel_rfl) (by kernel_rfl) (fun h6 => ?_) (fun h6 => ?_)
 ·
  refine DK.seg 9 (by kernel_rfl) ?_
  refine DK.dec (((((s.ls 3).map I).length : Nat) : Int) ≥ m) (by kernel_rfl) (by kernel_rfl) (fun h7 => ?_) (fun h7 => ?_)
  ·
   refine DK.seg 3 (by kernel_rfl) (DK.nil ?_)
   refine X.ret ?_
   exact ⟨rfl, giv (r := .bool true) (by kernel_rfl) (bool_t (p := hold s n m 0) (by exact .inl ⟨rfl, by assumption, by omega⟩))⟩
  refine DK.seg 3 (by kernel_rfl) (DK.nil ?_)
  refine X.ret ?_
  exact ⟨rfl, giv (r := .bool false) (by kernel_rfl) (bool_f (p := hold s n m 0) (by intro hh; rcases hh with ⟨q0, q1, q2⟩ | ⟨q0, q1, q2⟩ <;> first | contradiction | omega))⟩
 refine DK.segE 13 ([.agg (cS s), .agg [I op, I n, I m, I who, .list subs false], I 0, .ptr 0 0, .ptr 1 0, undefA, .bool false, I 0, .bool false, .bool false, undefA, undefA, .bool false, .bool false, .agg (cS s), I (numS s), .bool false, .bool false, .ptr 1 1, I n, .bool true, .bool true, I 0, .ptr 0 12, .ptr 0 12, .ptr 0 12, I (s.pl 0), .ptr 1 2, I m, .bool false, .bool false, .bool false, .ptr 1 1, I n, .bool true, .bool true, .agg (cS s), I 0, .list ((bea s 0).map I) false, I ((((bea s 0).map I).length : Nat) : Int), .ptr 1 2, I m, .bool false, .bool false, .bool false, .bool false, .ptr 1 1, I n, .bool false, .bool false] ++ List.replicate 9 undefA ++ [.bool false, .bool false] : List AV) [.box (cS s) false, .box [I op, I n, I m, I who, .list subs false] false] (by kernel_rfl) (DK.nil ?_)
 refine X.ret ?_
 exact ⟨rfl, giv (r := .bool false) (by kernel_rfl) (bool_f (p := hold s n m 0) (by intro hh; rcases hh with ⟨q0, q1, q2⟩ | ⟨q0, q1, q2⟩ <;> first | contradiction | omega))⟩

set_option maxHeartbeats 1000000 in
theorem rHolds_1 : ∀ k (s : St) (op n m who : Int) (subs : List AV) σ, wf s → AV.frees subs = true → 1500000 ≤ k → readW (callW Tryz.prog (exec Tryz.prog cfg k)) 15 [.agg (cS s), .agg [I op, I n, I m, I who, .list subs false], I 1] σ = some (.bool (decide (hold s n m 1)), σ) := by
 intro k s op n m who subs σ hyp0 hyp1 hk
 obtain ⟨k, rfl⟩ : ∃ k', k = k' + 60 := ⟨k - 60, by omega⟩
 have hw1 := hyp0.1
 have hw2 := hyp0.2
 have hlm : ((s.objs).map E).length = s.objs.length := List.length_map _
 have hll : ∀ z, ((s.ls z).map I).length = (s.ls z).length := fun z => List.length_map _
 have hl2 := hll 2; have hl3 := hll 3
 have hb0 : ((bea s 0).map I).length = (bea s 0).length := List.length_map _
 have hb1 : ((bea s 1).map I).length = (bea s 1).length := List.length_map _
 have hsub := hyp1
 refine reader_of Tryz.func15 rfl (by simp only [AV.frees, AV.free, fr_I, fr_E, fr_cO, fr_cL, fr_cS, hsub, Bool.and_self]) ?_
 refine X.seq (X.region (OK.seg 3 (by kernel_rfl) (OK.nil ?_)))
 refine X.seq (X.seq (X.region (OK.seg 8 (by kernel_rfl) ?_)))
 refine OK.rd [.agg (cS s)] [.agg (cS s)] (I (numS s)) rfl (by kernel_rfl) rfl (by kernel_rfl) (by kernel_rfl) (by kernel_rfl) (by kernel_rfl) (by kernel_rfl) (rCheck_w _ _ _ hyp0 (by omega)) ?_
 refine OK.ndec ((numS s) = 0) (by kernel_rfl) (by kernel_rfl) (fun h1 => ?_) (fun h1 => ?_)
 ·
  refine OK.seg 1 (by kernel_rfl) (OK.nil ?_)
  refine X.condT (by kernel_rfl) ?_
  refine X.seq (X.region (OK.seg 1 (by kernel_rfl) (OK.nil ?_)))
  refine X.ret ?_
  exact ⟨rfl, giv (r := .bool false) (by kernel_rfl) (bool_f (p := hold s n m 1) (by intro hh; rcases hh with ⟨q0, q1, q2⟩ | ⟨q0, q1, q2⟩ <;> first | contradiction | omega))⟩
 refine OK.seg 1 (by kernel_rfl) (OK.nil ?_)
 refine X.condF (by kernel_rfl) ?_
 refine X.skip (X.seq (X.draw (by kernel_rfl) (by kernel_rfl) (by kernel_rfl) ?_))
 refine DK.seg 2 (by kernel_rfl) ?_
 refine DK.dec (n = 0) (by kernel_rfl) (by kernel_rfl) (fun h2 => ?_) (fun h2 => ?_)
 rotate_left
 ·
  refine DK.segE 13 ([.agg (cS s), .agg [I op, I n, I m, I who, .list subs false], I 1, .ptr 0 0, .ptr 1 0, undefA, .bool false, I 1, .bool true, .bool true, I 1, .bool false, .bool false, .bool false, .agg (cS s), I (numS s), .bool false, .bool false, .ptr 1 1, I n, .bool false, .bool false] ++ List.replicate 8 undefA ++ [.bool false, .bool false, .ptr 1 1, I n] ++ List.replicate 27 undefA : List AV) [.box (cS s) false, .box [I op, I n, I m, I who, .list subs false] false] (by kernel_rfl) ?_
  refine DK.dec (n = 1) (by kernel_rfl) (by kernel_rfl) (fun h10 => ?_) (fun h10 => ?_)
  rotate_left
  ·
   refine DK.segE 13 ([.agg (cS s), .agg [I op, I n, I m, I who, .list subs false], I 1, .ptr 0 0, .ptr 1 0, undefA, .bool false, I 1, .bool true, .bool true, I 1, .bool false, .bool false, .bool false, .agg (cS s), I (numS s), .bool false, .bool false, .ptr 1 1, I n, .bool false, .bool false] ++ List.replicate 8 undefA ++ [.bool false, .bool false, .ptr 1 1, I n, .bool false, .bool false] ++ List.replicate 7 undefA ++ [.bool false, .bool false, .bool false, .ptr 1 1, I n] ++ List.replicate 13 undefA : List AV) [.box (cS s) false, .box [I op, I n, I m, I who, .list subs false] false] (by kernel_rfl) ?_
   refine DK.dec (n = 2) (by kernel_rfl) (by kernel_rfl) (fun h14 => ?_) (fun h14 => ?_)
   ·
    refine DK.seg 9 (by kernel_rfl) ?_
    refine DK.dec (((((s.ls 2).map I).length : Nat) : Int) ≥ m) (by kernel_rfl) (by kernel_rfl) (fun h15 => ?_) (fun h15 => ?_)
    ·
     refine DK.seg 3 (by kernel_rfl) (DK.nil ?_)
     refine X.ret ?_
     exact ⟨rfl, giv (r := .bool true) (by kernel_rfl) (bool_t (p := hold s n m 1) (by exact .inr ⟨rfl, by assumption, by omega⟩))⟩
    refine DK.seg 3 (by kernel_rfl) (DK.nil ?_)
    refine X.ret ?_
    exact ⟨rfl, giv (r := .bool false) (by kernel_rfl) (bool_f (p := hold s n m 1) (by intro hh; rcases hh with ⟨q0, q1, q2⟩ | ⟨q0, q1, q2⟩ <;> first | contradiction | omega))⟩
   refine DK.segE 13 ([.agg (cS s), .agg [I op, I n, I m, I who, .list subs false], I 1, .ptr 0 0, .ptr 1 0, undefA, .bool false, I 1, .bool true, .bool true, I 1, .bool false, .bool false, .bool false, .agg (cS s), I (numS s), .bool false, .bool false, .ptr 1 1, I n, .bool false, .bool false] ++ List.replicate 8 undefA ++ [.bool false, .bool false, .ptr 1 1, I n, .bool false, .bool false] ++ List.replicate 7 undefA ++ [.bool false, .bool false, .bool false, .ptr 1 1, I n, .bool false, .bool false] ++ List.replicate 9 undefA ++ [.bool false, .bool false] : List AV) [.box (cS s) false, .box [I op, I n, I m, I who, .list subs false] false] (by kernel_rfl) (DK.nil ?_)
   refine X.ret ?_
   exact ⟨rfl, giv (r := .bool false) (by kernel_rfl) (bool_f (p := hold s n m 1) (by intro hh; rcases hh with ⟨q0, q1, q2⟩ | ⟨q0, q1, q2⟩ <;> first | contradiction | omega))⟩
  refine DK.seg 3 (by kernel_rfl) ?_
  refine DK.rd [.agg (cS s), I 1] [.agg (cS s), I 1] (.list ((bea s 1).map I) false) rfl (by kernel_rfl) rfl (by kernel_rfl) (by kernel_rfl) (by kernel_rfl) (by kernel_rfl) (by kernel_rfl) (rBeasts_w _ _ _ _ hyp0 (by assumption) (by omega)) ?_
  refine DK.seg 3 (by kernel_rfl) ?_
  refine DK.dec (((((bea s 1).map I).length : Nat) : Int) ≥ m) (by kernel_rfl) (by kernel_rfl) (fun h11 => ?_) (fun h11 => ?_)
  ·
   refine DK.segE 19 ([.agg (cS s), .agg [I op, I n, I m, I who, .list subs false], I 1, .ptr 0 0, .ptr 1 0, undefA, .bool true, I 1, .bool true, .bool true, I 1, .bool false, .bool false, .bool false, .agg (cS s), I (numS s), .bool false, .bool false, .ptr 1 1, I n, .bool false, .bool false] ++ List.replicate 8 undefA ++ [.bool false, .bool false, .ptr 1 1, I n, .bool true, .bool true, .agg (cS s), I 1, .list ((bea s 1).map I) false, I ((((bea s 1).map I).length : Nat) : Int), .ptr 1 2, I m, .bool true, .bool true, .bool true, .bool true] ++ List.replicate 14 undefA ++ [.bool true] : List AV) [.box (cS s) false, .box [I op, I n, I m, I who, .list subs false] false] (by kernel_rfl) (DK.nil ?_)
   refine X.ret ?_
   exact ⟨rfl, giv (r := .bool true) (by kernel_rfl) (bool_t (p := hold s n m 1) (by exact .inr ⟨rfl, by assumption, by omega⟩))⟩
  refine DK.seg 5 (by kernel_rfl) ?_
  refine DK.dec (n = 2) (by kernel_rfl) (by kernel_rfl) (fun h12 => ?_) (fun h12 => ?_)
  ·
   refine DK.seg 9 (by kernel_rfl) ?_
   refine DK.dec (((((s.ls 2).map I).length : Nat) : Int) ≥ m) (by kernel_rfl) (by kernel_rfl) (fun h13 => ?_) (fun h13 => ?_)
   ·
    refine DK.seg 3 (by kernel_rfl) (DK.nil ?_)
    refine X.ret ?_
    exact ⟨rfl, giv (r := .bool true) (by kernel_rfl) (bool_t (p := hold s n m 1) (by exact .inr ⟨rfl, by assumption, by omega⟩))⟩
   refine DK.seg 3 (by kernel_rfl) (DK.nil ?_)
   refine X.ret ?_
   exact ⟨rfl, giv (r := .bool false) (by kernel_rfl) (bool_f (p := hold s n m 1) (by intro hh; rcases hh with ⟨q0, q1, q2⟩ | ⟨q0, q1, q2⟩ <;> first | contradiction | omega))⟩
  refine DK.segE 13 ([.agg (cS s), .agg [I op, I n, I m, I who, .list subs false], I 1, .ptr 0 0, .ptr 1 0, undefA, .bool false, I 1, .bool true, .bool true, I 1, .bool false, .bool false, .bool false, .agg (cS s), I (numS s), .bool false, .bool false, .ptr 1 1, I n, .bool false, .bool false] ++ List.replicate 8 undefA ++ [.bool false, .bool false, .ptr 1 1, I n, .bool true, .bool true, .agg (cS s), I 1, .list ((bea s 1).map I) false, I ((((bea s 1).map I).length : Nat) : Int), .ptr 1 2, I m, .bool false, .bool false, .bool false, .bool false, .ptr 1 1, I n, .bool false, .bool false] ++ List.replicate 9 undefA ++ [.bool false, .bool false] : List AV) [.box (cS s) false, .box [I op, I n, I m, I who, .list subs false] false] (by kernel_rfl) (DK.nil ?_)
  refine X.ret ?_
  exact ⟨rfl, giv (r := .bool false) (by kernel_rfl) (bool_f (p := hold s n m 1) (by intro hh; rcases hh with ⟨q0, q1, q2⟩ | ⟨q0, q1, q2⟩ <;> first | contradiction | omega))⟩
 refine DK.seg 8 (by kernel_rfl) ?_
 refine DK.dec ((s.pl 9) ≤ m) (by kernel_rfl) (by kernel_rfl) (fun h3 => ?_) (fun h3 => ?_)
 ·
  refine DK.segE 32 ([.agg (cS s), .agg [I op, I n, I m, I who, .list subs false], I 1, .ptr 0 0, .ptr 1 0, undefA, .bool true, I 1, .bool true, .bool true, I 1, .bool false, .bool false, .bool false, .agg (cS s), I (numS s), .bool false, .bool false, .ptr 1 1, I n, .bool true, .bool true, I 1, .ptr 0 12, .ptr 0 21, .ptr 0 21, I (s.pl 9), .ptr 1 2, I m, .bool true, .bool true, .bool true] ++ List.replicate 12 undefA ++ [.bool true, .bool true] ++ List.replicate 14 undefA ++ [.bool true] : List AV) [.box (cS s) false, .box [I op, I n, I m, I who, .list subs false] false] (by kernel_rfl) (DK.nil ?_)
  refine X.ret ?_
  exact ⟨rfl, giv (r := .bool true) (by kernel_rfl) (bool_t (p := hold s n m 1) (by exact .inr ⟨rfl, by assumption, by omega⟩))⟩
 refine DK.seg 4 (by kernel_rfl) ?_
 refine DK.dec (n = 1) (by kernel_rfl) (by kernel_rfl) (fun h4 => ?_) (fun h4 => ?_)
 rotate_left
 ·
  refine DK.segE 13 ([.agg (cS s), .agg [I op, I n, I m, I who, .list subs false], I 1, .ptr 0 0, .ptr 1 0, undefA, .bool false, I 1, .bool true, .bool true, I 1, .bool false, .bool false, .bool false, .agg (cS s), I (numS s), .bool false, .bool false, .ptr 1 1, I n, .bool true, .bool true, I 1, .ptr 0 12, .ptr 0 21, .ptr 0 21, I (s.pl 9), .ptr 1 2, I m, .bool false, .bool false, .bool false, .ptr 1 1, I n, .bool false, .bool false] ++ List.replicate 7 undefA ++ [.bool false, .bool false, .bool false, .ptr 1 1, I n] ++ List.replicate 13 undefA : List AV) [.box (cS s) false, .box [I op, I n, I m, I who, .list subs false] false] (by kernel_rfl) ?_
  refine DK.dec (n = 2) (by kernel_rfl) (by kernel_rfl) (fun h8 => ?_) (fun h8 => ?_)
  ·
   refine DK.seg 9 (by kernel_rfl) ?_
   refine DK.dec (((((s.ls 2).map I).length : Nat) : Int) ≥ m) (by kernel_rfl) (by kernel_rfl) (fun h9 => ?_) (fun h9 => ?_)
   ·
    refine DK.seg 3 (by kernel_rfl) (DK.nil ?_)
    refine X.ret ?_
    exact ⟨rfl, giv (r := .bool true) (by kernel_rfl) (bool_t (p := hold s n m 1) (by exact .inr ⟨rfl, by assumption, by omega⟩))⟩
   refine DK.seg 3 (by kernel_rfl) (DK.nil ?_)
   refine X.ret ?_
   exact ⟨rfl, giv (r := .bool false) (by kernel_rfl) (bool_f (p := hold s n m 1) (by intro hh; rcases hh with ⟨q0, q1, q2⟩ | ⟨q0, q1, q2⟩ <;> first | contradiction | omega))⟩
  refine DK.segE 13 ([.agg (cS s), .agg [I op, I n, I m, I who, .list subs false], I 1, .ptr 0 0, .ptr 1 0, undefA, .bool false, I 1, .bool true, .bool true, I 1, .bool false, .bool false, .bool false, .agg (cS s), I (numS s), .bool false, .bool false, .ptr 1 1, I n, .bool true, .bool true, I 1, .ptr 0 12, .ptr 0 21, .ptr 0 21, I (s.pl 9), .ptr 1 2, I m, .bool false, .bool false, .bool false, .ptr 1 1, I n, .bool false, .bool false] ++ List.replicate 7 undefA ++ [.bool false, .bool false, .bool false, .ptr 1 1, I n, .bool false, .bool false] ++ List.replicate 9 undefA ++ [.bool false, .bool false] : List AV) [.box (cS s) false, .box [I op, I n, I m, I who, .list subs false] false] (by kernel_rfl) (DK.nil ?_)
  refine X.ret ?_
  exact ⟨rfl, giv (r := .bool false) (by kernel_rfl) (bool_f (p := hold s n m 1) (by intro hh; rcases hh with ⟨q0, q1, q2⟩ | ⟨q0, q1, q2⟩ <;> first | contradiction | omega))⟩
 refine DK.seg 3 (by kernel_rfl) ?_
 refine DK.rd [.agg (cS s), I 1] [.agg (cS s), I 1] (.list ((bea s 1).map I) false) rfl (by kernel_rfl) rfl (by kernel_rfl) (by kernel_rfl) (by kernel_rfl) (by kernel_rfl) (by kernel_rfl) (rBeasts_w _ _ _ _ hyp0 (by assumption) (by omega)) ?_
 refine DK.seg 3 (by kernel_rfl) ?_
 refine DK.dec (((((bea s 1).map I).length : Nat) : Int) ≥ m) (by kernel_rfl) (by kernel_rfl) (fun h5 => ?_) (fun h5 => ?_)
 ·
  refine DK.segE 19 ([.agg (cS s), .agg [I op, I n, I m, I who, .list subs false], I 1, .ptr 0 0, .ptr 1 0, undefA, .bool true, I 1, .bool true, .bool true, I 1, .bool false, .bool false, .bool false, .agg (cS s), I (numS s), .bool false, .bool false, .ptr 1 1, I n, .bool true, .bool true, I 1, .ptr 0 12, .ptr 0 21, .ptr 0 21, I (s.pl 9), .ptr 1 2, I m, .bool false, .bool false, .bool false, .ptr 1 1, I n, .bool true, .bool true, .agg (cS s), I 1, .list ((bea s 1).map I) false, I ((((bea s 1).map I).length : Nat) : Int), .ptr 1 2, I m, .bool true, .bool true, .bool true, .bool true] ++ List.replicate 14 undefA ++ [.bool true] : List AV) [.box (cS s) false, .box [I op, I n, I m, I who, .list subs false] false] (by kernel_rfl) (DK.nil ?_)
  refine X.ret ?_
  exact ⟨rfl, giv (r := .bool true) (by kernel_rfl) (bool_t (p := hold s n m 1) (by exact .inr ⟨rfl, by assumption, by omega⟩))⟩
 refine DK.seg 5 (by kernel_rfl) ?_
 refine DK.dec (n = 2) (by kernel_rfl) (by kernel_rfl) (fun h6 => ?_) (fun h6 => ?_)
 ·
  refine DK.seg 9 (by kernel_rfl) ?_
  refine DK.dec (((((s.ls 2).map I).length : Nat) : Int) ≥ m) (by kernel_rfl) (by kernel_rfl) (fun h7 => ?_) (fun h7 => ?_)
  ·
   refine DK.seg 3 (by kernel_rfl) (DK.nil ?_)
   refine X.ret ?_
   exact ⟨rfl, giv (r := .bool true) (by kernel_rfl) (bool_t (p := hold s n m 1) (by exact .inr ⟨rfl, by assumption, by omega⟩))⟩
  refine DK.seg 3 (by kernel_rfl) (DK.nil ?_)
  refine X.ret ?_
  exact ⟨rfl, giv (r := .bool false) (by kernel_rfl) (bool_f (p := hold s n m 1) (by intro hh; rcases hh with ⟨q0, q1, q2⟩ | ⟨q0, q1, q2⟩ <;> first | contradiction | omega))⟩
 refine DK.segE 13 ([.agg (cS s), .agg [I op, I n, I m, I who, .list subs false], I 1, .ptr 0 0, .ptr 1 0, undefA, .bool false, I 1, .bool true, .bool true, I 1, .bool false, .bool false, .bool false, .agg (cS s), I (numS s), .bool false, .bool false, .ptr 1 1, I n, .bool true, .bool true, I 1, .ptr 0 12, .ptr 0 21, .ptr 0 21, I (s.pl 9), .ptr 1 2, I m, .bool false, .bool false, .bool false, .ptr 1 1, I n, .bool true, .bool true, .agg (cS s), I 1, .list ((bea s 1).map I) false, I ((((bea s 1).map I).length : Nat) : Int), .ptr 1 2, I m, .bool false, .bool false, .bool false, .bool false, .ptr 1 1, I n, .bool false, .bool false] ++ List.replicate 9 undefA ++ [.bool false, .bool false] : List AV) [.box (cS s) false, .box [I op, I n, I m, I who, .list subs false] false] (by kernel_rfl) (DK.nil ?_)
 refine X.ret ?_
 exact ⟨rfl, giv (r := .bool false) (by kernel_rfl) (bool_f (p := hold s n m 1) (by intro hh; rcases hh with ⟨q0, q1, q2⟩ | ⟨q0, q1, q2⟩ <;> first | contradiction | omega))⟩

set_option maxHeartbeats 1000000 in
theorem rHolds_o : ∀ k (s : St) (op n m who : Int) (subs : List AV) (p : Int) σ, wf s → AV.frees subs = true → ¬ (p = 0 ∨ p = 1) → 1500000 ≤ k → readW (callW Tryz.prog (exec Tryz.prog cfg k)) 15 [.agg (cS s), .agg [I op, I n, I m, I who, .list subs false], I p] σ = some (.bool (decide (hold s n m p)), σ) := by
 intro k s op n m who subs p σ hyp0 hyp1 hyp2 hk
 obtain ⟨k, rfl⟩ : ∃ k', k = k' + 60 := ⟨k - 60, by omega⟩
 have hw1 := hyp0.1
 have hw2 := hyp0.2
 have hlm : ((s.objs).map E).length = s.objs.length := List.length_map _
 have hll : ∀ z, ((s.ls z).map I).length = (s.ls z).length := fun z => List.length_map _
 have hl2 := hll 2; have hl3 := hll 3
 have hb0 : ((bea s 0).map I).length = (bea s 0).length := List.length_map _
 have hb1 : ((bea s 1).map I).length = (bea s 1).length := List.length_map _
 have hsub := hyp1
 refine reader_of Tryz.func15 rfl (by simp only [AV.frees, AV.free, fr_I, fr_E, fr_cO, fr_cL, fr_cS, hsub, Bool.and_self]) ?_
 refine X.seq (X.region (OK.seg 3 (by kernel_rfl) (OK.nil ?_)))
 refine X.seq (X.seq (X.region (OK.seg 1 (by kernel_rfl) ?_)))
 refine OK.ndec (p = 0) (by kernel_rfl) (by kernel_rfl) (fun h1 => ?_) (fun h1 => ?_)
 rotate_left
 · exfalso; omega
 refine OK.seg 2 (by kernel_rfl) ?_
 refine OK.ndec (p = 1) (by kernel_rfl) (by kernel_rfl) (fun h2 => ?_) (fun h2 => ?_)
 rotate_left
 · exfalso; omega
 refine OK.seg 6 (by kernel_rfl) (OK.nil ?_)
 refine X.condT (by kernel_rfl) ?_
 refine X.seq (X.region (OK.seg 1 (by kernel_rfl) (OK.nil ?_)))
 refine X.ret ?_
 exact ⟨rfl, giv (r := .bool false) (by kernel_rfl) (bool_f (p := hold s n m p) (by intro hh; rcases hh with ⟨q0, q1, q2⟩ | ⟨q0, q1, q2⟩ <;> omega))⟩

theorem rHolds_w : ∀ k (s : St) (op n m who : Int) (subs : List AV) (p : Int) σ, wf s → AV.frees subs = true → 1500000 ≤ k → readW (callW Tryz.prog (exec Tryz.prog cfg k)) 15 [.agg (cS s), .agg [I op, I n, I m, I who, .list subs false], I p] σ = some (.bool (decide (hold s n m p)), σ) := by
 intro k s op n m who subs p σ h hs hk
 by_cases h0 : p = 0 ∨ p = 1
 · rcases h0 with rfl | rfl
   · exact rHolds_0 k s op n m who subs σ h hs hk
   · exact rHolds_1 k s op n m who subs σ h hs hk
 · exact rHolds_o k s op n m who subs p σ h hs h0 hk

end Go.Abs.S22

/- Walks. -/
namespace Go.Abs.S22
open Go Go.Abs Go.Proofs

theorem ext_getD {xs ys : List Int} (h : xs.length = ys.length) (h2 : ∀ j < xs.length, xs.getD j 0 = ys.getD j 0) : xs = ys := by
  apply List.ext_getElem h
  intro i h3 h4
  have := h2 i h3
  simpa [List.getD, h3, h4] using this

set_option maxHeartbeats 1000000 in
theorem Ints_w : ∀ k (xs ys : List Int) σ, xs.length ≤ 100000 → 600000 ≤ k → readW (callW Tryz.prog (exec Tryz.prog cfg k)) 12 [.list ((xs).map I) false, .list ((ys).map I) false] σ = some (.bool (decide (xs = ys)), σ) := by
 intro k xs ys σ hyp0 hk
 obtain ⟨k, rfl⟩ : ∃ k', k = k' + 60 := ⟨k - 60, by omega⟩
 have hlx : (xs.map I).length = xs.length := List.length_map _
 have hly : (ys.map I).length = ys.length := List.length_map _
 refine reader_of Tryz.func12 rfl (by simp only [AV.frees, AV.free, fr_I, fr_E, fr_cO, fr_cL, fr_cS, Bool.and_self]) ?_
 refine X.seq (X.region (OK.seg 1 (by kernel_rfl) (OK.nil ?_)))
 refine X.seq (X.seq (X.region (OK.seg 4 (by kernel_rfl) ?_)))
 refine OK.ndec (((((xs).map I).length : Nat) : Int) = ((((ys).map I).length : Nat) : Int)) (by kernel_rfl) (by kernel_rfl) (fun h1 => ?_) (fun h1 => ?_)
 ·
  refine OK.nil ?_
  refine X.condT (by kernel_rfl) ?_
  refine X.seq (X.region (OK.seg 1 (by kernel_rfl) (OK.nil ?_)))
  refine X.ret ?_
  exact ⟨rfl, giv (r := .bool false) (by kernel_rfl) (bool_f (p := xs = ys) (by intro hh; first | (have q := congrArg List.length hh; omega) | (subst hh; contradiction)))⟩
 refine OK.nil ?_
 refine X.condF (by kernel_rfl) ?_
 refine X.skip (X.seq (X.seq (X.region (OK.seg 3 (by kernel_rfl) (OK.nil ?_)))))
 refine X.block ?_
 refine X.rounds3 (K := 500) [4, 5, 14, 15, 16, 17, 18, 19, 20, 21, 22, 23, 24, 25] (by kernel_rfl) rfl (fun m fr σ => ∃ i : Nat, m = xs.length - i ∧ clearA' [4, 5, 14, 15, 16, 17, 18, 19, 20, 21, 22, 23, 24, 25] fr = ([.list ((xs).map I) false, .list ((ys).map I) false, undefA, undefA, .opq, .opq, .list ((xs).map I) false, I ((((xs).map I).length : Nat) : Int), .list ((ys).map I) false, I ((((ys).map I).length : Nat) : Int), .bool false, .list ((xs).map I) false, I ((((xs).map I).length : Nat) : Int), I ((i : Nat) : Int)] ++ List.replicate 12 .opq : List AV) ∧ σ = [] ∧ (i ≤ xs.length ∧ ∀ j < i, xs.getD j 0 = ys.getD j 0)) ?_ (m := xs.length) ⟨0, by first | rfl | omega, by kernel_rfl, by kernel_rfl, by exact ⟨Nat.zero_le _, fun j h => absurd h (Nat.not_lt_zero _)⟩⟩ ?_
 rotate_left
 · omega
 rintro m5 fr σ ⟨i, h3, h4, rfl, h2⟩ k h5
 rw [h4]; clear h4
 obtain ⟨k, rfl⟩ : ∃ k', k = k' + 60 := ⟨k - 60, by omega⟩
 refine X.seq (X.region ?_)
 refine OK.dec (((i : Nat) : Int) < ((((xs).map I).length : Nat) : Int)) (by kernel_rfl) (by kernel_rfl) (fun h6 => ?_) (fun h6 => ?_)
 rotate_left
 ·
  refine OK.nil ?_
  refine X.seq (X.condF (by kernel_rfl) ?_)
  refine X.exit ?_
  show X _ _ _ _ _ _ _ _ _
  refine X.seq (X.region (OK.seg 1 (by kernel_rfl) (OK.nil ?_)))
  refine X.ret ?_
  exact ⟨rfl, giv (r := .bool true) (by kernel_rfl) (bool_t (p := xs = ys) (by exact ext_getD (by omega) (fun j hj => h2.2 j (by omega))))⟩
 refine OK.nil ?_
 refine X.seq (X.condT (by kernel_rfl) ?_)
 refine X.skip (X.seq (X.block (X.seq (X.region (OK.seg 2 (by kernel_rfl) (OK.nil ?_))))))
 refine X.seq (X.draw (by kernel_rfl) (by kernel_rfl) (by kernel_rfl) ?_)
 refine DK.seg 2 (by kernel_rfl) ?_
 refine DK.val (.ro [I (((xs).getD i 0))] 0) (by kernel_rfl) (fun _ => idx_map (sz := 1) (g := I) (d := 0) (xs := xs) (ex := false) (k := .i64) (n := ((i : Nat) : Int)) rfl Tryz.underlying23 (by kernel_rfl) (by kernel_rfl) (by kernel_rfl) (by kernel_rfl) (by omega) (by omega)) ?_
 refine DK.seg 3 (by kernel_rfl) ?_
 refine DK.val (.ro [I (((ys).getD i 0))] 0) (by kernel_rfl) (fun _ => idx_map (sz := 1) (g := I) (d := 0) (xs := ys) (ex := false) (k := .i64) (n := ((i : Nat) : Int)) rfl Tryz.underlying23 (by kernel_rfl) (by kernel_rfl) (by kernel_rfl) (by kernel_rfl) (by omega) (by omega)) ?_
 refine DK.seg 1 (by kernel_rfl) ?_
 refine DK.ndec ((((xs).getD i 0)) = (((ys).getD i 0))) (by kernel_rfl) (by kernel_rfl) (fun h7 => ?_) (fun h7 => ?_)
 ·
  refine DK.nil ?_
  refine X.condT (by kernel_rfl) ?_
  refine X.seq (X.region (OK.seg 1 (by kernel_rfl) (OK.nil ?_)))
  refine X.ret ?_
  exact ⟨rfl, giv (r := .bool false) (by kernel_rfl) (bool_f (p := xs = ys) (by intro hh; first | (have q := congrArg List.length hh; omega) | (subst hh; contradiction)))⟩
 refine DK.nil ?_
 refine X.condF (by kernel_rfl) ?_
 refine X.skip (X.region ?_)
 refine OK.val (I ((i + 1 : Nat) : Int)) (by kernel_rfl) (fun _ => add_op (k := .i64) (a := ((i : Nat) : Int)) (b := 1) rfl (by kernel_rfl) (by kernel_rfl) (by rw [wrap64] <;> omega)) ?_
 refine OK.seg 1 (by kernel_rfl) (OK.nil ?_)
 refine ⟨([.list ((xs).map I) false, .list ((ys).map I) false, undefA, undefA, .opq, .opq, .list ((xs).map I) false, I ((((xs).map I).length : Nat) : Int), .list ((ys).map I) false, I ((((ys).map I).length : Nat) : Int), .bool false, .list ((xs).map I) false, I ((((xs).map I).length : Nat) : Int), I ((i + 1 : Nat) : Int)] ++ List.replicate 12 .opq : List AV), [], [], [], by kernel_rfl, by kernel_rfl, by simp only [bS], by simp only [bS], by kernel_rfl, m5 - 1, by omega, i + 1, by first | rfl | omega, by kernel_rfl, by kernel_rfl, ?_⟩
 refine ⟨by omega, fun j hj => ?_⟩
 rcases Nat.lt_or_ge j i with hq | hq
 · exact h2.2 j hq
 · obtain rfl : j = i := by omega
   assumption

theorem context_w : ∀ k (op n m who : Int) (subs : List AV) (src ctl kind tgt : Int) σ, AV.frees subs = true → 60 ≤ k → readW (callW Tryz.prog (exec Tryz.prog cfg k)) 10 [.agg [I op, I n, I m, I who, .list subs false, I src, I ctl, I kind, I tgt]] σ = some (.agg [I src, I ctl, I kind, I tgt], σ) := by
 intro k op n m who subs src ctl kind tgt σ hyp0 hk
 obtain ⟨k, rfl⟩ : ∃ k', k = k' + 60 := ⟨k - 60, by omega⟩
 have hsub := hyp0
 refine reader_of Tryz.func10 rfl (by simp only [AV.frees, AV.free, fr_I, fr_E, fr_cO, fr_cL, fr_cS, hsub, Bool.and_self]) ?_
 refine X.seq (X.region (OK.seg 2 (by kernel_rfl) (OK.nil ?_)))
 refine X.seq (X.region (OK.seg 10 (by kernel_rfl) (OK.nil ?_)))
 refine X.ret ?_
 exact ⟨rfl, giv (r := .agg [I src, I ctl, I kind, I tgt]) (by kernel_rfl) (by rfl)⟩

theorem grL_len {s : St} (hw : wf s) (n ctl src : Int) : (grL s n ctl src).length ≤ 100000 := by
  unfold grL flt
  split
  · exact Nat.le_trans (List.length_filter_le _ _) (hw.2 8)
  · simp

theorem asks_ok (s : St) (x : Nat → Bool) (hz : ∀ z, 11 ≤ z → s.ls z = []) (op n m who : Int) (subs : List AV) (y : Bool) (hsub : AV.frees subs = true) (src ctl kind tgt : Int) :
    ∃ σ', callF Tryz.prog cfg 2000000 3 [.agg (cSf s x), .agg [I op, I n, I m, I who, .list subs y, I src, I ctl, I kind, I tgt]] 0 [] = some (.bool true, σ') := by
 refine call_of Tryz.func3 rfl ?_
 refine X.seq ?_
 refine X.region ?_
 refine OK.segE 3 ([.agg (cSf s x), .agg [I op, I n, I m, I who, .list subs y, I src, I ctl, I kind, I tgt], .ptr 0 0, .ptr 1 0, .bool false] ++ List.replicate 41 undefA : List AV) [.box (cSf s x) false, .box [I op, I n, I m, I who, .list subs y, I src, I ctl, I kind, I tgt] false] (by kernel_rfl) ?_
 refine OK.nil ?_
 refine X.seq ?_
 refine X.seq ?_
 refine X.region ?_
 refine OK.rd [] [] (.bool true) rfl (by kernel_rfl) rfl (by kernel_rfl) (by kernel_rfl) (by kernel_rfl) (by kernel_rfl) (by kernel_rfl) (alive_w _ _ (by omega)) ?_
 refine OK.segE 1 ([.agg (cSf s x), .agg [I op, I n, I m, I who, .list subs y, I src, I ctl, I kind, I tgt], .ptr 0 0, .ptr 1 0, .bool false, undefA, .bool true, .bool false] ++ List.replicate 38 undefA : List AV) [.box (cSf s x) false, .box [I op, I n, I m, I who, .list subs y, I src, I ctl, I kind, I tgt] false] (by kernel_rfl) ?_
 refine OK.nil ?_
 refine X.condF (by kernel_rfl) ?_
 refine X.skip ?_
 refine X.seq ?_
 refine X.seq ?_
 refine X.region ?_
 refine OK.segE 1 ([.agg (cSf s x), .agg [I op, I n, I m, I who, .list subs y, I src, I ctl, I kind, I tgt], .ptr 0 0, .ptr 1 0, .bool false, undefA, .bool true, .bool false, .agg (cSf s x)] ++ List.replicate 37 undefA : List AV) [.box (cSf s x) false, .box [I op, I n, I m, I who, .list subs y, I src, I ctl, I kind, I tgt] false] (by kernel_rfl) ?_
 refine OK.rdP [.agg (cSf s x), I 40] [.agg (cS s), I 40] (big s 40) rfl (by kernel_rfl) rfl (by kernel_rfl) (by kernel_rfl) (by kernel_rfl) (by kernel_rfl) (by kernel_rfl) (Long_w _ _ _ (by omega)) (fun h1 => ?_) (fun h1 => ?_)
 ·
  refine OK.nil ?_
  refine X.condT (by kernel_rfl) ?_
  refine X.seq ?_
  refine X.region ?_
  refine OK.segE 1 ([.agg (cSf s x), .agg [I op, I n, I m, I who, .list subs y, I src, I ctl, I kind, I tgt], .ptr 0 0, .ptr 1 0, .bool true, undefA, .bool true, .bool false, .agg (cSf s x), .bool true] ++ List.replicate 36 undefA : List AV) [.box (cSf s x) false, .box [I op, I n, I m, I who, .list subs y, I src, I ctl, I kind, I tgt] false] (by kernel_rfl) ?_
  refine OK.nil ?_
  refine X.ret ?_
  exact ⟨rfl, by kernel_rfl⟩
 have hyp0 := wf_big h1 hz
 have hg := grL_len hyp0 n ctl src
 refine OK.nil ?_
 refine X.condF (by kernel_rfl) ?_
 refine X.skip ?_
 refine X.seq ?_
 refine X.draw (by kernel_rfl) (by kernel_rfl) (by kernel_rfl) ?_
 refine DK.segE 3 ([.agg (cSf s x), .agg [I op, I n, I m, I who, .list subs y, I src, I ctl, I kind, I tgt], .ptr 0 0, .ptr 1 0, .bool false, undefA, .bool true, .bool false, .agg (cSf s x), .bool false, .ptr 1 0, .agg [I op, I n, I m, I who, .list subs y], .agg [I op, I n, I m, I who, .list subs y, I src, I ctl, I kind, I tgt]] ++ List.replicate 33 undefA : List AV) [.box (cSf s x) false, .box [I op, I n, I m, I who, .list subs y, I src, I ctl, I kind, I tgt] false] (by kernel_rfl) ?_
 refine DK.rd [.agg [I op, I n, I m, I who, .list subs y, I src, I ctl, I kind, I tgt]] [.agg [I op, I n, I m, I who, .list subs false, I src, I ctl, I kind, I tgt]] (.agg [I src, I ctl, I kind, I tgt]) rfl (by kernel_rfl) rfl (by kernel_rfl) (by kernel_rfl) (by kernel_rfl) (by kernel_rfl) (by kernel_rfl) (context_w _ _ _ _ _ _ _ _ _ _ _ hsub (by omega)) ?_
 refine DK.opS (.tuple []) [.box (cSf s x) false, .box [I op, I n, I m, I who, .list subs y, I src, I ctl, I kind, I tgt] false, .box [I op, I n, I m, I who, .list subs false] false, .box [I src, I ctl, I kind, I tgt] false] (by kernel_rfl) (by kernel_rfl) ?_
 refine DK.nil ?_
 refine X.seq ?_
 refine X.draw (by kernel_rfl) (by kernel_rfl) (by kernel_rfl) ?_
 refine DK.segE 5 ([.agg (cSf s x), .agg [I op, I n, I m, I who, .list subs y, I src, I ctl, I kind, I tgt], .ptr 0 0, .ptr 1 0, .bool false, undefA, .bool true, .bool false, .agg (cSf s x), .bool false, .ptr 1 0, .agg [I op, I n, I m, I who, .list subs y], .agg [I op, I n, I m, I who, .list subs y, I src, I ctl, I kind, I tgt], .agg [I src, I ctl, I kind, I tgt], .tuple [], .agg (cSf s x), .ptr 1 0, .ptr 1 1, I n, .agg [I op, I n, I m, I who, .list subs y, I src, I ctl, I kind, I tgt]] ++ List.replicate 26 undefA : List AV) [.box (cSf s x) false, .box [I op, I n, I m, I who, .list subs y, I src, I ctl, I kind, I tgt] false, .box [I op, I n, I m, I who, .list subs false] false, .box [I src, I ctl, I kind, I tgt] false] (by kernel_rfl) ?_
 refine DK.rd [.agg [I op, I n, I m, I who, .list subs y, I src, I ctl, I kind, I tgt]] [.agg [I op, I n, I m, I who, .list subs false, I src, I ctl, I kind, I tgt]] (.agg [I src, I ctl, I kind, I tgt]) rfl (by kernel_rfl) rfl (by kernel_rfl) (by kernel_rfl) (by kernel_rfl) (by kernel_rfl) (by kernel_rfl) (context_w _ _ _ _ _ _ _ _ _ _ _ hsub (by omega)) ?_
 refine DK.rd [.agg (cSf s x), I n, .agg [I src, I ctl, I kind, I tgt]] [.agg (cS s), I n, .agg [I src, I ctl, I kind, I tgt]] (.list ((grL s n ctl src).map I) false) rfl (by kernel_rfl) rfl (by kernel_rfl) (by kernel_rfl) (by kernel_rfl) (by kernel_rfl) (by kernel_rfl) (rGroup_w _ _ _ _ _ _ _ _ hyp0 (by omega)) ?_
 refine DK.segE 1 ([.agg (cSf s x), .agg [I op, I n, I m, I who, .list subs y, I src, I ctl, I kind, I tgt], .ptr 0 0, .ptr 1 0, .bool false, .list ((grL s n ctl src).map I) false, .bool true, .bool false, .agg (cSf s x), .bool false, .ptr 1 0, .agg [I op, I n, I m, I who, .list subs y], .agg [I op, I n, I m, I who, .list subs y, I src, I ctl, I kind, I tgt], .agg [I src, I ctl, I kind, I tgt], .tuple [], .agg (cSf s x), .ptr 1 0, .ptr 1 1, I n, .agg [I op, I n, I m, I who, .list subs y, I src, I ctl, I kind, I tgt], .agg [I src, I ctl, I kind, I tgt], .list ((grL s n ctl src).map I) false] ++ List.replicate 24 undefA : List AV) [.box (cSf s x) false, .box [I op, I n, I m, I who, .list subs y, I src, I ctl, I kind, I tgt] false, .box [I op, I n, I m, I who, .list subs false] false, .box [I src, I ctl, I kind, I tgt] false] (by kernel_rfl) ?_
 refine DK.nil ?_
 refine X.seq ?_
 refine X.draw (by kernel_rfl) (by kernel_rfl) (by kernel_rfl) ?_
 refine DK.segE 5 ([.agg (cSf s x), .agg [I op, I n, I m, I who, .list subs y, I src, I ctl, I kind, I tgt], .ptr 0 0, .ptr 1 0, .bool false, .list ((grL s n ctl src).map I) false, .bool true, .bool false, .agg (cSf s x), .bool false, .ptr 1 0, .agg [I op, I n, I m, I who, .list subs y], .agg [I op, I n, I m, I who, .list subs y, I src, I ctl, I kind, I tgt], .agg [I src, I ctl, I kind, I tgt], .tuple [], .agg (cSf s x), .ptr 1 0, .ptr 1 1, I n, .agg [I op, I n, I m, I who, .list subs y, I src, I ctl, I kind, I tgt], .agg [I src, I ctl, I kind, I tgt], .list ((grL s n ctl src).map I) false, .agg (cSf s x), .ptr 1 0, .ptr 1 1, I n, .agg [I op, I n, I m, I who, .list subs y, I src, I ctl, I kind, I tgt]] ++ List.replicate 19 undefA : List AV) [.box (cSf s x) false, .box [I op, I n, I m, I who, .list subs y, I src, I ctl, I kind, I tgt] false, .box [I op, I n, I m, I who, .list subs false] false, .box [I src, I ctl, I kind, I tgt] false] (by kernel_rfl) ?_
 refine DK.rd [.agg [I op, I n, I m, I who, .list subs y, I src, I ctl, I kind, I tgt]] [.agg [I op, I n, I m, I who, .list subs false, I src, I ctl, I kind, I tgt]] (.agg [I src, I ctl, I kind, I tgt]) rfl (by kernel_rfl) rfl (by kernel_rfl) (by kernel_rfl) (by kernel_rfl) (by kernel_rfl) (by kernel_rfl) (context_w _ _ _ _ _ _ _ _ _ _ _ hsub (by omega)) ?_
 refine DK.rd [.agg (cSf s x), I n, .agg [I src, I ctl, I kind, I tgt]] [.agg (cS s), I n, .agg [I src, I ctl, I kind, I tgt]] (.list ((grL s n ctl src).map I) false) rfl (by kernel_rfl) rfl (by kernel_rfl) (by kernel_rfl) (by kernel_rfl) (by kernel_rfl) (by kernel_rfl) (Group_w _ _ _ _ _ _ _ _ hyp0 (by omega)) ?_
 refine DK.segE 1 ([.agg (cSf s x), .agg [I op, I n, I m, I who, .list subs y, I src, I ctl, I kind, I tgt], .ptr 0 0, .ptr 1 0, .bool false, .list ((grL s n ctl src).map I) false, .bool true, .bool false, .agg (cSf s x), .bool false, .ptr 1 0, .agg [I op, I n, I m, I who, .list subs y], .agg [I op, I n, I m, I who, .list subs y, I src, I ctl, I kind, I tgt], .agg [I src, I ctl, I kind, I tgt], .tuple [], .agg (cSf s x), .ptr 1 0, .ptr 1 1, I n, .agg [I op, I n, I m, I who, .list subs y, I src, I ctl, I kind, I tgt], .agg [I src, I ctl, I kind, I tgt], .list ((grL s n ctl src).map I) false, .agg (cSf s x), .ptr 1 0, .ptr 1 1, I n, .agg [I op, I n, I m, I who, .list subs y, I src, I ctl, I kind, I tgt], .agg [I src, I ctl, I kind, I tgt], .list ((grL s n ctl src).map I) false, .list ((grL s n ctl src).map I) false] ++ List.replicate 16 undefA : List AV) [.box (cSf s x) false, .box [I op, I n, I m, I who, .list subs y, I src, I ctl, I kind, I tgt] false, .box [I op, I n, I m, I who, .list subs false] false, .box [I src, I ctl, I kind, I tgt] false] (by kernel_rfl) ?_
 refine DK.rdP [.list ((grL s n ctl src).map I) false, .list ((grL s n ctl src).map I) false] [.list ((grL s n ctl src).map I) false, .list ((grL s n ctl src).map I) false] (grL s n ctl src = grL s n ctl src) rfl (by kernel_rfl) rfl (by kernel_rfl) (by kernel_rfl) (by kernel_rfl) (by kernel_rfl) (by kernel_rfl) (Ints_w _ _ _ _ (by omega) (by omega)) (fun h2 => ?_) (fun h2 => ?_)
 rotate_left
 ·
  refine DK.segE 16 ([.agg (cSf s x), .agg [I op, I n, I m, I who, .list subs y, I src, I ctl, I kind, I tgt], .ptr 0 0, .ptr 1 0, .bool false, .list ((grL s n ctl src).map I) false, .bool true, .bool false, .agg (cSf s x), .bool false, .ptr 1 0, .agg [I op, I n, I m, I who, .list subs y], .agg [I op, I n, I m, I who, .list subs y, I src, I ctl, I kind, I tgt], .agg [I src, I ctl, I kind, I tgt], .tuple [], .agg (cSf s x), .ptr 1 0, .ptr 1 1, I n, .agg [I op, I n, I m, I who, .list subs y, I src, I ctl, I kind, I tgt], .agg [I src, I ctl, I kind, I tgt], .list ((grL s n ctl src).map I) false, .agg (cSf s x), .ptr 1 0, .ptr 1 1, I n, .agg [I op, I n, I m, I who, .list subs y, I src, I ctl, I kind, I tgt], .agg [I src, I ctl, I kind, I tgt], .list ((grL s n ctl src).map I) false, .list ((grL s n ctl src).map I) false, .bool false, .bool false] ++ List.replicate 13 undefA ++ [.bool false] : List AV) [.box (cSf s x) false, .box [I op, I n, I m, I who, .list subs y, I src, I ctl, I kind, I tgt] false, .box [I op, I n, I m, I who, .list subs false] false, .box [I src, I ctl, I kind, I tgt] false] (by kernel_rfl) ?_
  refine DK.nil ?_
  refine X.ret ?_
  first | exact absurd rfl (by assumption : ¬ grL s n ctl src = grL s n ctl src) | exact absurd (by assumption : hold s n m ctl) (by assumption)
 refine DK.segE 6 ([.agg (cSf s x), .agg [I op, I n, I m, I who, .list subs y, I src, I ctl, I kind, I tgt], .ptr 0 0, .ptr 1 0, .bool false, .list ((grL s n ctl src).map I) false, .bool true, .bool false, .agg (cSf s x), .bool false, .ptr 1 0, .agg [I op, I n, I m, I who, .list subs y], .agg [I op, I n, I m, I who, .list subs y, I src, I ctl, I kind, I tgt], .agg [I src, I ctl, I kind, I tgt], .tuple [], .agg (cSf s x), .ptr 1 0, .ptr 1 1, I n, .agg [I op, I n, I m, I who, .list subs y, I src, I ctl, I kind, I tgt], .agg [I src, I ctl, I kind, I tgt], .list ((grL s n ctl src).map I) false, .agg (cSf s x), .ptr 1 0, .ptr 1 1, I n, .agg [I op, I n, I m, I who, .list subs y, I src, I ctl, I kind, I tgt], .agg [I src, I ctl, I kind, I tgt], .list ((grL s n ctl src).map I) false, .list ((grL s n ctl src).map I) false, .bool true, .bool true, .agg (cSf s x), .ptr 1 0, .agg [I op, I n, I m, I who, .list subs y], .ptr 1 6, I ctl] ++ List.replicate 9 undefA : List AV) [.box (cSf s x) false, .box [I op, I n, I m, I who, .list subs y, I src, I ctl, I kind, I tgt] false, .box [I op, I n, I m, I who, .list subs false] false, .box [I src, I ctl, I kind, I tgt] false] (by kernel_rfl) ?_
 refine DK.rdP [.agg (cSf s x), .agg [I op, I n, I m, I who, .list subs y], I ctl] [.agg (cS s), .agg [I op, I n, I m, I who, .list subs false], I ctl] (hold s n m ctl) rfl (by kernel_rfl) rfl (by kernel_rfl) (by kernel_rfl) (by kernel_rfl) (by kernel_rfl) (by kernel_rfl) (Holds_w _ _ _ _ _ _ _ _ _ hyp0 hsub (by omega)) (fun h3 => ?_) (fun h3 => ?_)
 ·
  refine DK.segE 5 [.agg (cSf s x), .agg [I op, I n, I m, I who, .list subs y, I src, I ctl, I kind, I tgt], .ptr 0 0, .ptr 1 0, .bool false, .list ((grL s n ctl src).map I) false, .bool true, .bool false, .agg (cSf s x), .bool false, .ptr 1 0, .agg [I op, I n, I m, I who, .list subs y], .agg [I op, I n, I m, I who, .list subs y, I src, I ctl, I kind, I tgt], .agg [I src, I ctl, I kind, I tgt], .tuple [], .agg (cSf s x), .ptr 1 0, .ptr 1 1, I n, .agg [I op, I n, I m, I who, .list subs y, I src, I ctl, I kind, I tgt], .agg [I src, I ctl, I kind, I tgt], .list ((grL s n ctl src).map I) false, .agg (cSf s x), .ptr 1 0, .ptr 1 1, I n, .agg [I op, I n, I m, I who, .list subs y, I src, I ctl, I kind, I tgt], .agg [I src, I ctl, I kind, I tgt], .list ((grL s n ctl src).map I) false, .list ((grL s n ctl src).map I) false, .bool true, .bool true, .agg (cSf s x), .ptr 1 0, .agg [I op, I n, I m, I who, .list subs y], .ptr 1 6, I ctl, .bool true, .agg (cSf s x), .ptr 1 0, .agg [I op, I n, I m, I who, .list subs y], .ptr 1 6, I ctl, undefA, undefA, undefA] [.box (cSf s x) false, .box [I op, I n, I m, I who, .list subs y, I src, I ctl, I kind, I tgt] false, .box [I op, I n, I m, I who, .list subs false] false, .box [I src, I ctl, I kind, I tgt] false] (by kernel_rfl) ?_
  refine DK.rdP [.agg (cSf s x), .agg [I op, I n, I m, I who, .list subs y], I ctl] [.agg (cS s), .agg [I op, I n, I m, I who, .list subs false], I ctl] (hold s n m ctl) rfl (by kernel_rfl) rfl (by kernel_rfl) (by kernel_rfl) (by kernel_rfl) (by kernel_rfl) (by kernel_rfl) (rHolds_w _ _ _ _ _ _ _ _ _ hyp0 hsub (by omega)) (fun h4 => ?_) (fun h4 => ?_)
  ·
   refine DK.segE 3 [.agg (cSf s x), .agg [I op, I n, I m, I who, .list subs y, I src, I ctl, I kind, I tgt], .ptr 0 0, .ptr 1 0, .bool true, .list ((grL s n ctl src).map I) false, .bool true, .bool false, .agg (cSf s x), .bool false, .ptr 1 0, .agg [I op, I n, I m, I who, .list subs y], .agg [I op, I n, I m, I who, .list subs y, I src, I ctl, I kind, I tgt], .agg [I src, I ctl, I kind, I tgt], .tuple [], .agg (cSf s x), .ptr 1 0, .ptr 1 1, I n, .agg [I op, I n, I m, I who, .list subs y, I src, I ctl, I kind, I tgt], .agg [I src, I ctl, I kind, I tgt], .list ((grL s n ctl src).map I) false, .agg (cSf s x), .ptr 1 0, .ptr 1 1, I n, .agg [I op, I n, I m, I who, .list subs y, I src, I ctl, I kind, I tgt], .agg [I src, I ctl, I kind, I tgt], .list ((grL s n ctl src).map I) false, .list ((grL s n ctl src).map I) false, .bool true, .bool true, .agg (cSf s x), .ptr 1 0, .agg [I op, I n, I m, I who, .list subs y], .ptr 1 6, I ctl, .bool true, .agg (cSf s x), .ptr 1 0, .agg [I op, I n, I m, I who, .list subs y], .ptr 1 6, I ctl, .bool true, .bool true, .bool true] [.box (cSf s x) false, .box [I op, I n, I m, I who, .list subs y, I src, I ctl, I kind, I tgt] false, .box [I op, I n, I m, I who, .list subs false] false, .box [I src, I ctl, I kind, I tgt] false] (by kernel_rfl) ?_
   refine DK.nil ?_
   refine X.ret ?_
   exact ⟨rfl, by kernel_rfl⟩
  refine DK.segE 3 [.agg (cSf s x), .agg [I op, I n, I m, I who, .list subs y, I src, I ctl, I kind, I tgt], .ptr 0 0, .ptr 1 0, .bool false, .list ((grL s n ctl src).map I) false, .bool true, .bool false, .agg (cSf s x), .bool false, .ptr 1 0, .agg [I op, I n, I m, I who, .list subs y], .agg [I op, I n, I m, I who, .list subs y, I src, I ctl, I kind, I tgt], .agg [I src, I ctl, I kind, I tgt], .tuple [], .agg (cSf s x), .ptr 1 0, .ptr 1 1, I n, .agg [I op, I n, I m, I who, .list subs y, I src, I ctl, I kind, I tgt], .agg [I src, I ctl, I kind, I tgt], .list ((grL s n ctl src).map I) false, .agg (cSf s x), .ptr 1 0, .ptr 1 1, I n, .agg [I op, I n, I m, I who, .list subs y, I src, I ctl, I kind, I tgt], .agg [I src, I ctl, I kind, I tgt], .list ((grL s n ctl src).map I) false, .list ((grL s n ctl src).map I) false, .bool true, .bool true, .agg (cSf s x), .ptr 1 0, .agg [I op, I n, I m, I who, .list subs y], .ptr 1 6, I ctl, .bool true, .agg (cSf s x), .ptr 1 0, .agg [I op, I n, I m, I who, .list subs y], .ptr 1 6, I ctl, .bool false, .bool false, .bool false] [.box (cSf s x) false, .box [I op, I n, I m, I who, .list subs y, I src, I ctl, I kind, I tgt] false, .box [I op, I n, I m, I who, .list subs false] false, .box [I src, I ctl, I kind, I tgt] false] (by kernel_rfl) ?_
  refine DK.nil ?_
  refine X.ret ?_
  first | exact absurd rfl (by assumption : ¬ grL s n ctl src = grL s n ctl src) | exact absurd (by assumption : hold s n m ctl) (by assumption)
 refine DK.segE 5 [.agg (cSf s x), .agg [I op, I n, I m, I who, .list subs y, I src, I ctl, I kind, I tgt], .ptr 0 0, .ptr 1 0, .bool false, .list ((grL s n ctl src).map I) false, .bool true, .bool false, .agg (cSf s x), .bool false, .ptr 1 0, .agg [I op, I n, I m, I who, .list subs y], .agg [I op, I n, I m, I who, .list subs y, I src, I ctl, I kind, I tgt], .agg [I src, I ctl, I kind, I tgt], .tuple [], .agg (cSf s x), .ptr 1 0, .ptr 1 1, I n, .agg [I op, I n, I m, I who, .list subs y, I src, I ctl, I kind, I tgt], .agg [I src, I ctl, I kind, I tgt], .list ((grL s n ctl src).map I) false, .agg (cSf s x), .ptr 1 0, .ptr 1 1, I n, .agg [I op, I n, I m, I who, .list subs y, I src, I ctl, I kind, I tgt], .agg [I src, I ctl, I kind, I tgt], .list ((grL s n ctl src).map I) false, .list ((grL s n ctl src).map I) false, .bool true, .bool true, .agg (cSf s x), .ptr 1 0, .agg [I op, I n, I m, I who, .list subs y], .ptr 1 6, I ctl, .bool false, .agg (cSf s x), .ptr 1 0, .agg [I op, I n, I m, I who, .list subs y], .ptr 1 6, I ctl, undefA, undefA, undefA] [.box (cSf s x) false, .box [I op, I n, I m, I who, .list subs y, I src, I ctl, I kind, I tgt] false, .box [I op, I n, I m, I who, .list subs false] false, .box [I src, I ctl, I kind, I tgt] false] (by kernel_rfl) ?_
 refine DK.rdP [.agg (cSf s x), .agg [I op, I n, I m, I who, .list subs y], I ctl] [.agg (cS s), .agg [I op, I n, I m, I who, .list subs false], I ctl] (hold s n m ctl) rfl (by kernel_rfl) rfl (by kernel_rfl) (by kernel_rfl) (by kernel_rfl) (by kernel_rfl) (by kernel_rfl) (rHolds_w _ _ _ _ _ _ _ _ _ hyp0 hsub (by omega)) (fun h5 => ?_) (fun h5 => ?_)
 rotate_left
 ·
  refine DK.segE 3 [.agg (cSf s x), .agg [I op, I n, I m, I who, .list subs y, I src, I ctl, I kind, I tgt], .ptr 0 0, .ptr 1 0, .bool true, .list ((grL s n ctl src).map I) false, .bool true, .bool false, .agg (cSf s x), .bool false, .ptr 1 0, .agg [I op, I n, I m, I who, .list subs y], .agg [I op, I n, I m, I who, .list subs y, I src, I ctl, I kind, I tgt], .agg [I src, I ctl, I kind, I tgt], .tuple [], .agg (cSf s x), .ptr 1 0, .ptr 1 1, I n, .agg [I op, I n, I m, I who, .list subs y, I src, I ctl, I kind, I tgt], .agg [I src, I ctl, I kind, I tgt], .list ((grL s n ctl src).map I) false, .agg (cSf s x), .ptr 1 0, .ptr 1 1, I n, .agg [I op, I n, I m, I who, .list subs y, I src, I ctl, I kind, I tgt], .agg [I src, I ctl, I kind, I tgt], .list ((grL s n ctl src).map I) false, .list ((grL s n ctl src).map I) false, .bool true, .bool true, .agg (cSf s x), .ptr 1 0, .agg [I op, I n, I m, I who, .list subs y], .ptr 1 6, I ctl, .bool false, .agg (cSf s x), .ptr 1 0, .agg [I op, I n, I m, I who, .list subs y], .ptr 1 6, I ctl, .bool false, .bool true, .bool true] [.box (cSf s x) false, .box [I op, I n, I m, I who, .list subs y, I src, I ctl, I kind, I tgt] false, .box [I op, I n, I m, I who, .list subs false] false, .box [I src, I ctl, I kind, I tgt] false] (by kernel_rfl) ?_
  refine DK.nil ?_
  refine X.ret ?_
  exact ⟨rfl, by kernel_rfl⟩
 refine DK.segE 3 [.agg (cSf s x), .agg [I op, I n, I m, I who, .list subs y, I src, I ctl, I kind, I tgt], .ptr 0 0, .ptr 1 0, .bool false, .list ((grL s n ctl src).map I) false, .bool true, .bool false, .agg (cSf s x), .bool false, .ptr 1 0, .agg [I op, I n, I m, I who, .list subs y], .agg [I op, I n, I m, I who, .list subs y, I src, I ctl, I kind, I tgt], .agg [I src, I ctl, I kind, I tgt], .tuple [], .agg (cSf s x), .ptr 1 0, .ptr 1 1, I n, .agg [I op, I n, I m, I who, .list subs y, I src, I ctl, I kind, I tgt], .agg [I src, I ctl, I kind, I tgt], .list ((grL s n ctl src).map I) false, .agg (cSf s x), .ptr 1 0, .ptr 1 1, I n, .agg [I op, I n, I m, I who, .list subs y, I src, I ctl, I kind, I tgt], .agg [I src, I ctl, I kind, I tgt], .list ((grL s n ctl src).map I) false, .list ((grL s n ctl src).map I) false, .bool true, .bool true, .agg (cSf s x), .ptr 1 0, .agg [I op, I n, I m, I who, .list subs y], .ptr 1 6, I ctl, .bool false, .agg (cSf s x), .ptr 1 0, .agg [I op, I n, I m, I who, .list subs y], .ptr 1 6, I ctl, .bool true, .bool false, .bool false] [.box (cSf s x) false, .box [I op, I n, I m, I who, .list subs y, I src, I ctl, I kind, I tgt] false, .box [I op, I n, I m, I who, .list subs false] false, .box [I src, I ctl, I kind, I tgt] false] (by kernel_rfl) ?_
 refine DK.nil ?_
 refine X.ret ?_
 first | exact absurd rfl (by assumption : ¬ grL s n ctl src = grL s n ctl src) | exact absurd (by assumption : hold s n m ctl) (by assumption)

end Go.Abs.S22
