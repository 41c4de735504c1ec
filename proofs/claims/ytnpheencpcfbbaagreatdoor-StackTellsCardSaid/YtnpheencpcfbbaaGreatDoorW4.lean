/-
  Walks: creatures and groups. Each for states with lists of up to 100000.
-/
import Derived.Test.YtnpheencpcfbbaaGreatDoorW3
set_option linter.unusedSimpArgs false
set_option linter.unusedVariables false
namespace Go.Abs.Z
open Go Go.Abs Go.Proofs
set_option maxHeartbeats 1000000 in
theorem kind_w : ∀ k (s : St) (id : Int) σ, wf s → okR s → (0 ≤ id ∧ id < s.objs.length) → 600 ≤ k → readW (callW Tryz.prog (exec Tryz.prog cfg k)) 255 [.agg (cS s), I id] σ = some (.agg (cC (cdN ((s.objs.getD id.toNat o0) 0))), σ) := by
 intro k s id σ hyp0 hyp1 hyp2 hk
 obtain ⟨k, rfl⟩ : ∃ k', k = k' + 60 := ⟨k - 60, by omega⟩
 have hw1 := hyp0.1
 have hw2 := hyp0.2
 have hlm : ((s.objs).map E).length = s.objs.length := List.length_map _
 have hok := hyp1
 obtain ⟨h0, h1⟩ := hyp2
 obtain ⟨hc0, hc1⟩ := ok_card hok h0 h1
 refine reader_of Tryz.func255 rfl (by simp only [AV.frees, AV.free, fr_I, fr_E, fr_cO, fr_cL, fr_cS, Bool.and_self]) ?_
 refine X.seq (X.region (OK.seg 2 (by kernel_rfl) (OK.nil ?_)))
 refine X.seq (X.region (OK.seg 3 (by kernel_rfl) ?_))
 refine OK.val (.ro (cO ((s.objs).getD id.toNat o0)) 0) (by kernel_rfl) (fun _ => idx_map (sz := 18) (g := E) (d := o0) (xs := s.objs) (ex := false) (k := .i64) (n := id) rfl Tryz.underlying22 (by kernel_rfl) (by kernel_rfl) (by kernel_rfl) (by kernel_rfl) (by omega) (by omega)) ?_
 refine OK.seg 2 (by kernel_rfl) ?_
 refine OK.rd [I (((s.objs).getD id.toNat o0) 0)] [I (((s.objs).getD id.toNat o0) 0)] (.tuple [.agg (cC (cdN (((s.objs).getD id.toNat o0) 0))), .nilIface]) rfl (by kernel_rfl) rfl (by kernel_rfl) (by kernel_rfl) (by kernel_rfl) (by kernel_rfl) (by kernel_rfl) (tcard (((s.objs).getD id.toNat o0) 0) (by omega) (by omega) _ _ (by omega)) ?_
 refine OK.seg 6 (by kernel_rfl) (OK.nil ?_)
 refine X.seq (X.seq (X.region (OK.seg 2 (by kernel_rfl) (OK.nil ?_))))
 refine X.condF (by kernel_rfl) ?_
 refine X.skip (X.seq (X.region (OK.seg 2 (by kernel_rfl) (OK.nil ?_))))
 refine X.ret ?_
 exact ⟨rfl, giv2 (vs := [.agg (cC (cdN (((s.objs).getD id.toNat o0) 0)))]) (σ' := [.box (cS s) false, .box (cC (cdN (((s.objs).getD id.toNat o0) 0))) false, .box (cC (cdN (((s.objs).getD id.toNat o0) 0))) false]) (by kernel_rfl) (by kernel_rfl) (by simp only [AV.free, AV.frees, fr_I, fr_E, fr_cO, fr_cL, fr_cS, fr_cC, fr_aC, fr_Am, fr_cD, fr_aD, fr_ADm, fr_EFm, fr_eC, Bool.and_self])⟩
set_option maxHeartbeats 1000000 in
theorem rkind_w : ∀ k (s : St) (id : Int) σ, wf s → okR s → (0 ≤ id ∧ id < s.objs.length) → 600 ≤ k → readW (callW Tryz.prog (exec Tryz.prog cfg k)) 211 [.agg (cS s), I id] σ = some (.agg (cD (cdN ((s.objs.getD id.toNat o0) 0))), σ) := by
 intro k s id σ hyp0 hyp1 hyp2 hk
 obtain ⟨k, rfl⟩ : ∃ k', k = k' + 60 := ⟨k - 60, by omega⟩
 have hw1 := hyp0.1
 have hw2 := hyp0.2
 have hlm : ((s.objs).map E).length = s.objs.length := List.length_map _
 have hok := hyp1
 obtain ⟨h0, h1⟩ := hyp2
 obtain ⟨hc0, hc1⟩ := ok_card hok h0 h1
 refine reader_of Tryz.func211 rfl (by simp only [AV.frees, AV.free, fr_I, fr_E, fr_cO, fr_cL, fr_cS, Bool.and_self]) ?_
 refine X.seq (X.region (OK.seg 2 (by kernel_rfl) (OK.nil ?_)))
 refine X.seq (X.region (OK.seg 3 (by kernel_rfl) ?_))
 refine OK.val (.ro (cO ((s.objs).getD id.toNat o0)) 0) (by kernel_rfl) (fun _ => idx_map (sz := 18) (g := E) (d := o0) (xs := s.objs) (ex := false) (k := .i64) (n := id) rfl Tryz.underlying22 (by kernel_rfl) (by kernel_rfl) (by kernel_rfl) (by kernel_rfl) (by omega) (by omega)) ?_
 refine OK.seg 2 (by kernel_rfl) ?_
 refine OK.rd [I (((s.objs).getD id.toNat o0) 0)] [I (((s.objs).getD id.toNat o0) 0)] (.tuple [.agg (cD (cdN (((s.objs).getD id.toNat o0) 0))), .bool true]) rfl (by kernel_rfl) rfl (by kernel_rfl) (by kernel_rfl) (by kernel_rfl) (by kernel_rfl) (by kernel_rfl) (rcard (((s.objs).getD id.toNat o0) 0) (by omega) (by omega) _ _ (by omega)) ?_
 refine OK.seg 6 (by kernel_rfl) (OK.nil ?_)
 refine X.seq (X.region (OK.seg 2 (by kernel_rfl) (OK.nil ?_)))
 refine X.ret ?_
 exact ⟨rfl, giv2 (vs := [.agg (cD (cdN (((s.objs).getD id.toNat o0) 0)))]) (σ' := [.box (cS s) false, .box (cD (cdN (((s.objs).getD id.toNat o0) 0))) false, .box (cD (cdN (((s.objs).getD id.toNat o0) 0))) false]) (by kernel_rfl) (by kernel_rfl) (by simp only [AV.free, AV.frees, fr_I, fr_E, fr_cO, fr_cL, fr_cS, fr_cC, fr_aC, fr_Am, fr_cD, fr_aD, fr_ADm, fr_EFm, fr_eC, Bool.and_self])⟩
set_option maxHeartbeats 1000000 in
theorem skind_w : ∀ k (s : St) (id : Int) σ, wf s → okR s → (0 ≤ id ∧ id < s.objs.length) → 600 ≤ k → readW (callW Tryz.prog (exec Tryz.prog cfg k)) 106 [.agg (cS s), I id] σ = some (.agg (cC (cdN ((s.objs.getD id.toNat o0) 0))), σ) := by
 intro k s id σ hyp0 hyp1 hyp2 hk
 obtain ⟨k, rfl⟩ : ∃ k', k = k' + 60 := ⟨k - 60, by omega⟩
 have hw1 := hyp0.1
 have hw2 := hyp0.2
 have hlm : ((s.objs).map E).length = s.objs.length := List.length_map _
 have hok := hyp1
 obtain ⟨h0, h1⟩ := hyp2
 obtain ⟨hc0, hc1⟩ := ok_card hok h0 h1
 refine reader_of Tryz.func106 rfl (by simp only [AV.frees, AV.free, fr_I, fr_E, fr_cO, fr_cL, fr_cS, Bool.and_self]) ?_
 refine X.seq (X.region (OK.seg 2 (by kernel_rfl) (OK.nil ?_)))
 refine X.seq (X.region (OK.seg 3 (by kernel_rfl) ?_))
 refine OK.val (.ro (cO ((s.objs).getD id.toNat o0)) 0) (by kernel_rfl) (fun _ => idx_map (sz := 18) (g := E) (d := o0) (xs := s.objs) (ex := false) (k := .i64) (n := id) rfl Tryz.underlying22 (by kernel_rfl) (by kernel_rfl) (by kernel_rfl) (by kernel_rfl) (by omega) (by omega)) ?_
 refine OK.seg 2 (by kernel_rfl) ?_
 refine OK.rd [I (((s.objs).getD id.toNat o0) 0)] [I (((s.objs).getD id.toNat o0) 0)] (.tuple [.agg (cC (cdN (((s.objs).getD id.toNat o0) 0))), .nilIface]) rfl (by kernel_rfl) rfl (by kernel_rfl) (by kernel_rfl) (by kernel_rfl) (by kernel_rfl) (by kernel_rfl) (tcard (((s.objs).getD id.toNat o0) 0) (by omega) (by omega) _ _ (by omega)) ?_
 refine OK.seg 6 (by kernel_rfl) (OK.nil ?_)
 refine X.seq (X.seq (X.region (OK.seg 2 (by kernel_rfl) (OK.nil ?_))))
 refine X.condF (by kernel_rfl) ?_
 refine X.skip (X.seq (X.region (OK.seg 2 (by kernel_rfl) (OK.nil ?_))))
 refine X.ret ?_
 exact ⟨rfl, giv2 (vs := [.agg (cC (cdN (((s.objs).getD id.toNat o0) 0)))]) (σ' := [.box (cS s) false, .box (cC (cdN (((s.objs).getD id.toNat o0) 0))) false, .box (cC (cdN (((s.objs).getD id.toNat o0) 0))) false]) (by kernel_rfl) (by kernel_rfl) (by simp only [AV.free, AV.frees, fr_I, fr_E, fr_cO, fr_cL, fr_cS, fr_cC, fr_aC, fr_Am, fr_cD, fr_aD, fr_ADm, fr_EFm, fr_eC, Bool.and_self])⟩
set_option maxHeartbeats 1000000 in
theorem creature_w : ∀ k (s : St) (id : Int) σ, wf s → okR s → 800 ≤ k → readW (callW Tryz.prog (exec Tryz.prog cfg k)) 219 [.agg (cS s), I id] σ = some (.bool (decide (cre s id)), σ) := by
 intro k s id σ hyp0 hyp1 hk
 obtain ⟨k, rfl⟩ : ∃ k', k = k' + 60 := ⟨k - 60, by omega⟩
 have hw1 := hyp0.1
 have hw2 := hyp0.2
 have hlm : ((s.objs).map E).length = s.objs.length := List.length_map _
 have hok := hyp1
 refine reader_of Tryz.func219 rfl (by simp only [AV.frees, AV.free, fr_I, fr_E, fr_cO, fr_cL, fr_cS, Bool.and_self]) ?_
 refine X.seq (X.region (OK.seg 2 (by kernel_rfl) (OK.nil ?_)))
 refine X.seq (X.region (OK.seg 1 (by kernel_rfl) ?_))
 refine OK.dec (id ≥ 0) (by kernel_rfl) (by kernel_rfl) (fun h1 => ?_) (fun h1 => ?_)
 rotate_left
 ·
  refine OK.seg 24 (by kernel_rfl) (OK.nil ?_)
  refine X.ret ?_
  exact ⟨rfl, giv (r := .bool false) (by kernel_rfl) (bool_f (p := cre s id) (by intro hh; simp only [cre, kindN] at hh; omega))⟩
 refine OK.seg 5 (by kernel_rfl) ?_
 refine OK.dec (id < ((((s.objs).map E).length : Nat) : Int)) (by kernel_rfl) (by kernel_rfl) (fun h2 => ?_) (fun h2 => ?_)
 rotate_left
 ·
  refine OK.seg 18 (by kernel_rfl) (OK.nil ?_)
  refine X.ret ?_
  exact ⟨rfl, giv (r := .bool false) (by kernel_rfl) (bool_f (p := cre s id) (by intro hh; simp only [cre, kindN] at hh; omega))⟩
 refine OK.seg 5 (by kernel_rfl) ?_
 refine OK.val (.ro (cO ((s.objs).getD id.toNat o0)) 0) (by kernel_rfl) (fun _ => idx_map (sz := 18) (g := E) (d := o0) (xs := s.objs) (ex := false) (k := .i64) (n := id) rfl Tryz.underlying22 (by kernel_rfl) (by kernel_rfl) (by kernel_rfl) (by kernel_rfl) (by omega) (by omega)) ?_
 refine OK.seg 2 (by kernel_rfl) ?_
 refine OK.dec ((((s.objs).getD id.toNat o0) 3) = 8) (by kernel_rfl) (by kernel_rfl) (fun h3 => ?_) (fun h3 => ?_)
 rotate_left
 ·
  refine OK.seg 9 (by kernel_rfl) (OK.nil ?_)
  refine X.ret ?_
  exact ⟨rfl, giv (r := .bool false) (by kernel_rfl) (bool_f (p := cre s id) (by intro hh; simp only [cre, kindN] at hh; omega))⟩
 refine OK.seg 4 (by kernel_rfl) ?_
 refine OK.rd [.agg (cS s), I id] [.agg (cS s), I id] (.agg (cC (cdN (s.objs.getD id.toNat o0 0)))) rfl (by kernel_rfl) rfl (by kernel_rfl) (by kernel_rfl) (by kernel_rfl) (by kernel_rfl) (by kernel_rfl) (kind_w _ _ _ _ hyp0 hok ⟨by omega, by omega⟩ (by omega)) ?_
 refine OK.seg 1 (by kernel_rfl) ?_
 refine OK.dec (((cdN (s.objs.getD id.toNat o0 0)).kind) = 1) (by kernel_rfl) (by kernel_rfl) (fun h4 => ?_) (fun h4 => ?_)
 ·
  refine OK.seg 2 (by kernel_rfl) (OK.nil ?_)
  refine X.ret ?_
  exact ⟨rfl, giv (r := .bool true) (by kernel_rfl) (bool_t (p := cre s id) (by simp only [cre, kindN]; omega))⟩
 refine OK.seg 2 (by kernel_rfl) (OK.nil ?_)
 refine X.ret ?_
 exact ⟨rfl, giv (r := .bool false) (by kernel_rfl) (bool_f (p := cre s id) (by intro hh; simp only [cre, kindN] at hh; omega))⟩
set_option maxHeartbeats 1000000 in
theorem rIs_w : ∀ k (s : St) (id : Int) σ, wf s → okR s → 800 ≤ k → readW (callW Tryz.prog (exec Tryz.prog cfg k)) 131 [.agg (cS s), I id] σ = some (.bool (decide (cre s id)), σ) := by
 intro k s id σ hyp0 hyp1 hk
 obtain ⟨k, rfl⟩ : ∃ k', k = k' + 60 := ⟨k - 60, by omega⟩
 have hw1 := hyp0.1
 have hw2 := hyp0.2
 have hlm : ((s.objs).map E).length = s.objs.length := List.length_map _
 have hok := hyp1
 refine reader_of Tryz.func131 rfl (by simp only [AV.frees, AV.free, fr_I, fr_E, fr_cO, fr_cL, fr_cS, Bool.and_self]) ?_
 refine X.seq (X.region (OK.seg 2 (by kernel_rfl) (OK.nil ?_)))
 refine X.seq (X.region (OK.seg 1 (by kernel_rfl) ?_))
 refine OK.dec (id ≥ 0) (by kernel_rfl) (by kernel_rfl) (fun h1 => ?_) (fun h1 => ?_)
 rotate_left
 ·
  refine OK.seg 24 (by kernel_rfl) (OK.nil ?_)
  refine X.ret ?_
  exact ⟨rfl, giv (r := .bool false) (by kernel_rfl) (bool_f (p := cre s id) (by intro hh; simp only [cre, kindN] at hh; omega))⟩
 refine OK.seg 5 (by kernel_rfl) ?_
 refine OK.dec (id < ((((s.objs).map E).length : Nat) : Int)) (by kernel_rfl) (by kernel_rfl) (fun h2 => ?_) (fun h2 => ?_)
 rotate_left
 ·
  refine OK.seg 18 (by kernel_rfl) (OK.nil ?_)
  refine X.ret ?_
  exact ⟨rfl, giv (r := .bool false) (by kernel_rfl) (bool_f (p := cre s id) (by intro hh; simp only [cre, kindN] at hh; omega))⟩
 refine OK.seg 5 (by kernel_rfl) ?_
 refine OK.val (.ro (cO ((s.objs).getD id.toNat o0)) 0) (by kernel_rfl) (fun _ => idx_map (sz := 18) (g := E) (d := o0) (xs := s.objs) (ex := false) (k := .i64) (n := id) rfl Tryz.underlying22 (by kernel_rfl) (by kernel_rfl) (by kernel_rfl) (by kernel_rfl) (by omega) (by omega)) ?_
 refine OK.seg 2 (by kernel_rfl) ?_
 refine OK.dec ((((s.objs).getD id.toNat o0) 3) = 8) (by kernel_rfl) (by kernel_rfl) (fun h3 => ?_) (fun h3 => ?_)
 rotate_left
 ·
  refine OK.seg 9 (by kernel_rfl) (OK.nil ?_)
  refine X.ret ?_
  exact ⟨rfl, giv (r := .bool false) (by kernel_rfl) (bool_f (p := cre s id) (by intro hh; simp only [cre, kindN] at hh; omega))⟩
 refine OK.seg 4 (by kernel_rfl) ?_
 refine OK.rd [.agg (cS s), I id] [.agg (cS s), I id] (.agg (cD (cdN (s.objs.getD id.toNat o0 0)))) rfl (by kernel_rfl) rfl (by kernel_rfl) (by kernel_rfl) (by kernel_rfl) (by kernel_rfl) (by kernel_rfl) (rkind_w _ _ _ _ hyp0 hok ⟨by omega, by omega⟩ (by omega)) ?_
 refine OK.seg 1 (by kernel_rfl) ?_
 refine OK.dec (((cdN (s.objs.getD id.toNat o0 0)).kind) = 1) (by kernel_rfl) (by kernel_rfl) (fun h4 => ?_) (fun h4 => ?_)
 ·
  refine OK.seg 2 (by kernel_rfl) (OK.nil ?_)
  refine X.ret ?_
  exact ⟨rfl, giv (r := .bool true) (by kernel_rfl) (bool_t (p := cre s id) (by simp only [cre, kindN]; omega))⟩
 refine OK.seg 2 (by kernel_rfl) (OK.nil ?_)
 refine X.ret ?_
 exact ⟨rfl, giv (r := .bool false) (by kernel_rfl) (bool_f (p := cre s id) (by intro hh; simp only [cre, kindN] at hh; omega))⟩
set_option maxHeartbeats 1000000 in
theorem Is_w : ∀ k (s : St) (id : Int) σ, wf s → 500000 ≤ k → readW (callW Tryz.prog (exec Tryz.prog cfg k)) 160 [.agg (cS s), I id] σ = some (.bool (decide (rightS s ∧ cre s id)), σ) := by
 intro k s id σ hyp0 hk
 obtain ⟨k, rfl⟩ : ∃ k', k = k' + 60 := ⟨k - 60, by omega⟩
 have hw1 := hyp0.1
 have hw2 := hyp0.2
 have hlm : ((s.objs).map E).length = s.objs.length := List.length_map _
 have hll : ∀ z, ((s.ls z).map I).length = (s.ls z).length := fun z => List.length_map _
 refine reader_of Tryz.func160 rfl (by simp only [AV.frees, AV.free, fr_I, fr_E, fr_cO, fr_cL, fr_cS, Bool.and_self]) ?_
 refine X.seq (X.region (OK.seg 2 (by kernel_rfl) (OK.nil ?_)))
 refine X.seq (X.region (OK.seg 1 (by kernel_rfl) ?_))
 refine OK.rd [.agg (cS s)] [.agg (cS s)] (errS s) rfl (by kernel_rfl) rfl (by kernel_rfl) (by kernel_rfl) (by kernel_rfl) (by kernel_rfl) (by kernel_rfl) (Check_w _ _ _ hyp0 (by omega)) ?_
 rcases errS_cases s with ⟨hRh1, heh1⟩ | ⟨hRh1, vh1, heh1⟩ <;> rw [heh1]
 rotate_left
 ·
  refine OK.seg 7 (by kernel_rfl) (OK.nil ?_)
  refine X.ret ?_
  exact ⟨rfl, giv (r := .bool false) (by kernel_rfl) (bool_f (p := rightS s ∧ cre s id) (by intro hh; first | exact absurd hh.1 (by assumption) | exact absurd hh.2 (by assumption)))⟩
 refine OK.seg 4 (by kernel_rfl) ?_
 refine OK.rdP [.agg (cS s), I id] [.agg (cS s), I id] (cre s id) rfl (by kernel_rfl) rfl (by kernel_rfl) (by kernel_rfl) (by kernel_rfl) (by kernel_rfl) (by kernel_rfl) (creature_w _ _ _ _ hyp0 ((right_of (by assumption)).2.1) (by omega)) (fun h3 => ?_) (fun h3 => ?_)
 ·
  refine OK.seg 2 (by kernel_rfl) (OK.nil ?_)
  refine X.ret ?_
  exact ⟨rfl, giv (r := .bool true) (by kernel_rfl) (bool_t (p := rightS s ∧ cre s id) (by exact ⟨by assumption, by assumption⟩))⟩
 refine OK.seg 2 (by kernel_rfl) (OK.nil ?_)
 refine X.ret ?_
 exact ⟨rfl, giv (r := .bool false) (by kernel_rfl) (bool_f (p := rightS s ∧ cre s id) (by intro hh; first | exact absurd hh.1 (by assumption) | exact absurd hh.2 (by assumption)))⟩
end Go.Abs.Z
