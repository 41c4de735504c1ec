/-
  Walks: creatures and groups. Each for states with lists of up to 100000.
-/
import Derived.Test.YthdhilmjjdnlcaaGreatDoorW4
set_option linter.unusedSimpArgs false
set_option linter.unusedVariables false

/- Walks. -/
namespace Go.Abs.S22
open Go Go.Abs Go.Proofs

theorem kind_w (s : St) (id : Int) (h0 : 0 ≤ id) (h1 : id < s.objs.length) (hr : okR s) : ∃ c : Cd, AV.frees c.es = true ∧ ∀ k σ, 600 ≤ k → readW (callW Tryz.prog (exec Tryz.prog cfg k)) 112 [.agg (cS s), I id] σ = some (.agg (c.av (kindN ((s.objs.getD id.toNat o0) 0))), σ) := by
 obtain ⟨c, hc, hcard⟩ := tcard ((s.objs.getD id.toNat o0) 0) (ok_card hr h0 h1).1 (ok_card hr h0 h1).2
 refine ⟨c, hc, fun k σ hk => ?_⟩
 obtain ⟨k, rfl⟩ : ∃ k', k = k' + 60 := ⟨k - 60, by omega⟩
 refine reader_of Tryz.func112 rfl (by simp only [AV.frees, AV.free, fr_I, fr_E, fr_cO, fr_cL, fr_cS, Bool.and_self]) ?_
 refine X.seq ?_
 refine X.region ?_
 refine OK.seg 2 (by kernel_rfl) ?_
 refine OK.nil ?_
 refine X.seq ?_
 refine X.region ?_
 refine OK.seg 3 (by kernel_rfl) ?_
 refine OK.val (.ro (cO ((s.objs).getD id.toNat o0)) 0) (by kernel_rfl) (fun _ => idx_map (sz := 18) (g := E) (d := o0) (xs := s.objs) (ex := false) (k := .i64) (n := id) rfl Tryz.underlying22 (by kernel_rfl) (by kernel_rfl) (by kernel_rfl) (by kernel_rfl) (by omega) (by omega)) ?_
 refine OK.seg 2 (by kernel_rfl) ?_
 refine OK.rd [I (((s.objs).getD id.toNat o0) 0)] [I (((s.objs).getD id.toNat o0) 0)] (.tuple [.agg (c.av (kindN ((s.objs.getD id.toNat o0) 0))), .nilIface]) rfl (by kernel_rfl) rfl (by kernel_rfl) (by kernel_rfl) (by kernel_rfl) (by kernel_rfl) (by kernel_rfl) (hcard _ _ (by omega)) ?_
 refine OK.seg 6 (by kernel_rfl) ?_
 refine OK.nil ?_
 refine X.seq ?_
 refine X.seq ?_
 refine X.region ?_
 refine OK.seg 2 (by kernel_rfl) ?_
 refine OK.nil ?_
 refine X.condF (by kernel_rfl) ?_
 refine X.skip ?_
 refine X.seq ?_
 refine X.region ?_
 refine OK.seg 2 (by kernel_rfl) ?_
 refine OK.nil ?_
 refine X.ret ?_
 exact ⟨rfl, giv2 (vs := [.agg (c.av (kindN ((s.objs.getD id.toNat o0) 0)))]) (σ' := [.box (cS s) false, .box (c.av (kindN ((s.objs.getD id.toNat o0) 0))) false, .box (c.av (kindN ((s.objs.getD id.toNat o0) 0))) false]) (by kernel_rfl) (by kernel_rfl) (by simp only [AV.free, AV.frees, Cd.av, hc, Bool.and_self])⟩

theorem rkind_w (s : St) (id : Int) (h0 : 0 ≤ id) (h1 : id < s.objs.length) (hr : okR s) : ∃ c : Cd, AV.frees c.es = true ∧ ∀ k σ, 600 ≤ k → readW (callW Tryz.prog (exec Tryz.prog cfg k)) 63 [.agg (cS s), I id] σ = some (.agg (c.av (kindN ((s.objs.getD id.toNat o0) 0))), σ) := by
 obtain ⟨c, hc, hcard⟩ := rcard ((s.objs.getD id.toNat o0) 0) (ok_card hr h0 h1).1 (ok_card hr h0 h1).2
 refine ⟨c, hc, fun k σ hk => ?_⟩
 obtain ⟨k, rfl⟩ : ∃ k', k = k' + 60 := ⟨k - 60, by omega⟩
 refine reader_of Tryz.func63 rfl (by simp only [AV.frees, AV.free, fr_I, fr_E, fr_cO, fr_cL, fr_cS, Bool.and_self]) ?_
 refine X.seq ?_
 refine X.region ?_
 refine OK.seg 2 (by kernel_rfl) ?_
 refine OK.nil ?_
 refine X.seq ?_
 refine X.region ?_
 refine OK.seg 3 (by kernel_rfl) ?_
 refine OK.val (.ro (cO ((s.objs).getD id.toNat o0)) 0) (by kernel_rfl) (fun _ => idx_map (sz := 18) (g := E) (d := o0) (xs := s.objs) (ex := false) (k := .i64) (n := id) rfl Tryz.underlying22 (by kernel_rfl) (by kernel_rfl) (by kernel_rfl) (by kernel_rfl) (by omega) (by omega)) ?_
 refine OK.seg 2 (by kernel_rfl) ?_
 refine OK.rd [I (((s.objs).getD id.toNat o0) 0)] [I (((s.objs).getD id.toNat o0) 0)] (.tuple [.agg (c.av (kindN ((s.objs.getD id.toNat o0) 0))), .bool true]) rfl (by kernel_rfl) rfl (by kernel_rfl) (by kernel_rfl) (by kernel_rfl) (by kernel_rfl) (by kernel_rfl) (hcard _ _ (by omega)) ?_
 refine OK.seg 6 (by kernel_rfl) ?_
 refine OK.nil ?_
 refine X.seq ?_
 refine X.region ?_
 refine OK.seg 2 (by kernel_rfl) ?_
 refine OK.nil ?_
 refine X.ret ?_
 exact ⟨rfl, giv2 (vs := [.agg (c.av (kindN ((s.objs.getD id.toNat o0) 0)))]) (σ' := [.box (cS s) false, .box (c.av (kindN ((s.objs.getD id.toNat o0) 0))) false, .box (c.av (kindN ((s.objs.getD id.toNat o0) 0))) false]) (by kernel_rfl) (by kernel_rfl) (by simp only [AV.free, AV.frees, Cd.av, hc, Bool.and_self])⟩

set_option maxHeartbeats 1000000 in
theorem creature_w : ∀ k (s : St) (id : Int) σ, wf s → okR s → 800 ≤ k → readW (callW Tryz.prog (exec Tryz.prog cfg k)) 69 [.agg (cS s), I id] σ = some (.bool (decide (cre s id)), σ) := by
 intro k s id σ hyp0 hyp1 hk
 obtain ⟨k, rfl⟩ : ∃ k', k = k' + 60 := ⟨k - 60, by omega⟩
 have hw1 := hyp0.1
 have hw2 := hyp0.2
 have hlm : ((s.objs).map E).length = s.objs.length := List.length_map _
 have hok := hyp1
 refine reader_of Tryz.func69 rfl (by simp only [AV.frees, AV.free, fr_I, fr_E, fr_cO, fr_cL, fr_cS, Bool.and_self]) ?_
 refine X.seq (X.region (OK.seg 2 (by kernel_rfl) (OK.nil ?_)))
 refine X.seq (X.region (OK.seg 1 (by kernel_rfl) ?_))
 refine OK.dec (id ≥ 0) (by kernel_rfl) (by kernel_rfl) (fun h1 => ?_) (fun h1 => ?_)
 rotate_left
 ·
  refine OK.segE 24 ([.agg (cS s), I id, .ptr 0 0, undefA, .bool false, I id, .bool false, .bool false] ++ List.replicate 5 undefA ++ [.bool false, .bool false] ++ List.replicate 7 undefA ++ [.bool false, .bool false] ++ List.replicate 5 undefA ++ [.bool false] : List AV) [.box (cS s) false] (by kernel_rfl) (OK.nil ?_)
  refine X.ret ?_
  exact ⟨rfl, giv (r := .bool false) (by kernel_rfl) (bool_f (p := cre s id) (by intro hh; simp only [cre] at hh; omega))⟩
 refine OK.seg 5 (by kernel_rfl) ?_
 refine OK.dec (id < ((((s.objs).map E).length : Nat) : Int)) (by kernel_rfl) (by kernel_rfl) (fun h2 => ?_) (fun h2 => ?_)
 rotate_left
 ·
  refine OK.segE 18 ([.agg (cS s), I id, .ptr 0 0, undefA, .bool false, I id, .bool true, .bool true, I id, .ptr 0 0, .list ((s.objs).map E) false, I ((((s.objs).map E).length : Nat) : Int), .bool false, .bool false, .bool false] ++ List.replicate 7 undefA ++ [.bool false, .bool false] ++ List.replicate 5 undefA ++ [.bool false] : List AV) [.box (cS s) false] (by kernel_rfl) (OK.nil ?_)
  refine X.ret ?_
  exact ⟨rfl, giv (r := .bool false) (by kernel_rfl) (bool_f (p := cre s id) (by intro hh; simp only [cre] at hh; omega))⟩
 refine OK.seg 5 (by kernel_rfl) ?_
 refine OK.val (.ro (cO ((s.objs).getD id.toNat o0)) 0) (by kernel_rfl) (fun _ => idx_map (sz := 18) (g := E) (d := o0) (xs := s.objs) (ex := false) (k := .i64) (n := id) rfl Tryz.underlying22 (by kernel_rfl) (by kernel_rfl) (by kernel_rfl) (by kernel_rfl) (by omega) (by omega)) ?_
 refine OK.seg 2 (by kernel_rfl) ?_
 refine OK.dec ((((s.objs).getD id.toNat o0) 3) = 8) (by kernel_rfl) (by kernel_rfl) (fun h3 => ?_) (fun h3 => ?_)
 rotate_left
 ·
  refine OK.seg 9 (by kernel_rfl) (OK.nil ?_)
  refine X.ret ?_
  exact ⟨rfl, giv (r := .bool false) (by kernel_rfl) (bool_f (p := cre s id) (by intro hh; simp only [cre] at hh; omega))⟩
 refine OK.seg 4 (by kernel_rfl) ?_
 obtain ⟨ch4, hch4, hkh4⟩ := kind_w s id (by omega) (by omega) hok
 refine OK.rd [.agg (cS s), I id] [.agg (cS s), I id] (.agg (ch4.av (kindN (s.objs.getD id.toNat o0 0)))) rfl (by kernel_rfl) rfl (by kernel_rfl) (by kernel_rfl) (by kernel_rfl) (by kernel_rfl) (by kernel_rfl) (hkh4 _ _ (by omega)) ?_
 refine OK.seg 1 (by kernel_rfl) ?_
 refine OK.dec ((kindN (s.objs.getD id.toNat o0 0)) = 1) (by kernel_rfl) (by kernel_rfl) (fun h5 => ?_) (fun h5 => ?_)
 rotate_left
 ·
  refine OK.seg 2 (by kernel_rfl) (OK.nil ?_)
  refine X.ret ?_
  exact ⟨rfl, giv (r := .bool false) (by kernel_rfl) (bool_f (p := cre s id) (by intro hh; simp only [cre] at hh; omega))⟩
 refine OK.seg 2 (by kernel_rfl) (OK.nil ?_)
 refine X.ret ?_
 exact ⟨rfl, giv (r := .bool true) (by kernel_rfl) (bool_t (p := cre s id) (by first | exact ⟨by omega, by omega, by omega, by omega⟩ | (simp only [cre]; omega)))⟩

set_option maxHeartbeats 1000000 in
theorem rIs_w : ∀ k (s : St) (id : Int) σ, wf s → okR s → 800 ≤ k → readW (callW Tryz.prog (exec Tryz.prog cfg k)) 35 [.agg (cS s), I id] σ = some (.bool (decide (cre s id)), σ) := by
 intro k s id σ hyp0 hyp1 hk
 obtain ⟨k, rfl⟩ : ∃ k', k = k' + 60 := ⟨k - 60, by omega⟩
 have hw1 := hyp0.1
 have hw2 := hyp0.2
 have hlm : ((s.objs).map E).length = s.objs.length := List.length_map _
 have hok := hyp1
 refine reader_of Tryz.func35 rfl (by simp only [AV.frees, AV.free, fr_I, fr_E, fr_cO, fr_cL, fr_cS, Bool.and_self]) ?_
 refine X.seq (X.region (OK.seg 2 (by kernel_rfl) (OK.nil ?_)))
 refine X.seq (X.region (OK.seg 1 (by kernel_rfl) ?_))
 refine OK.dec (id ≥ 0) (by kernel_rfl) (by kernel_rfl) (fun h1 => ?_) (fun h1 => ?_)
 rotate_left
 ·
  refine OK.segE 24 ([.agg (cS s), I id, .ptr 0 0, undefA, .bool false, I id, .bool false, .bool false] ++ List.replicate 5 undefA ++ [.bool false, .bool false] ++ List.replicate 7 undefA ++ [.bool false, .bool false] ++ List.replicate 5 undefA ++ [.bool false] : List AV) [.box (cS s) false] (by kernel_rfl) (OK.nil ?_)
  refine X.ret ?_
  exact ⟨rfl, giv (r := .bool false) (by kernel_rfl) (bool_f (p := cre s id) (by intro hh; simp only [cre] at hh; omega))⟩
 refine OK.seg 5 (by kernel_rfl) ?_
 refine OK.dec (id < ((((s.objs).map E).length : Nat) : Int)) (by kernel_rfl) (by kernel_rfl) (fun h2 => ?_) (fun h2 => ?_)
 rotate_left
 ·
  refine OK.segE 18 ([.agg (cS s), I id, .ptr 0 0, undefA, .bool false, I id, .bool true, .bool true, I id, .ptr 0 0, .list ((s.objs).map E) false, I ((((s.objs).map E).length : Nat) : Int), .bool false, .bool false, .bool false] ++ List.replicate 7 undefA ++ [.bool false, .bool false] ++ List.replicate 5 undefA ++ [.bool false] : List AV) [.box (cS s) false] (by kernel_rfl) (OK.nil ?_)
  refine X.ret ?_
  exact ⟨rfl, giv (r := .bool false) (by kernel_rfl) (bool_f (p := cre s id) (by intro hh; simp only [cre] at hh; omega))⟩
 refine OK.seg 5 (by kernel_rfl) ?_
 refine OK.val (.ro (cO ((s.objs).getD id.toNat o0)) 0) (by kernel_rfl) (fun _ => idx_map (sz := 18) (g := E) (d := o0) (xs := s.objs) (ex := false) (k := .i64) (n := id) rfl Tryz.underlying22 (by kernel_rfl) (by kernel_rfl) (by kernel_rfl) (by kernel_rfl) (by omega) (by omega)) ?_
 refine OK.seg 2 (by kernel_rfl) ?_
 refine OK.dec ((((s.objs).getD id.toNat o0) 3) = 8) (by kernel_rfl) (by kernel_rfl) (fun h3 => ?_) (fun h3 => ?_)
 rotate_left
 ·
  refine OK.seg 9 (by kernel_rfl) (OK.nil ?_)
  refine X.ret ?_
  exact ⟨rfl, giv (r := .bool false) (by kernel_rfl) (bool_f (p := cre s id) (by intro hh; simp only [cre] at hh; omega))⟩
 refine OK.seg 4 (by kernel_rfl) ?_
 obtain ⟨ch4, hch4, hkh4⟩ := rkind_w s id (by omega) (by omega) hok
 refine OK.rd [.agg (cS s), I id] [.agg (cS s), I id] (.agg (ch4.av (kindN (s.objs.getD id.toNat o0 0)))) rfl (by kernel_rfl) rfl (by kernel_rfl) (by kernel_rfl) (by kernel_rfl) (by kernel_rfl) (by kernel_rfl) (hkh4 _ _ (by omega)) ?_
 refine OK.seg 1 (by kernel_rfl) ?_
 refine OK.dec ((kindN (s.objs.getD id.toNat o0 0)) = 1) (by kernel_rfl) (by kernel_rfl) (fun h5 => ?_) (fun h5 => ?_)
 rotate_left
 ·
  refine OK.seg 2 (by kernel_rfl) (OK.nil ?_)
  refine X.ret ?_
  exact ⟨rfl, giv (r := .bool false) (by kernel_rfl) (bool_f (p := cre s id) (by intro hh; simp only [cre] at hh; omega))⟩
 refine OK.seg 2 (by kernel_rfl) (OK.nil ?_)
 refine X.ret ?_
 exact ⟨rfl, giv (r := .bool true) (by kernel_rfl) (bool_t (p := cre s id) (by first | exact ⟨by omega, by omega, by omega, by omega⟩ | (simp only [cre]; omega)))⟩

set_option maxHeartbeats 1000000 in
theorem Is_w : ∀ k (s : St) (id : Int) σ, wf s → 500000 ≤ k → readW (callW Tryz.prog (exec Tryz.prog cfg k)) 37 [.agg (cS s), I id] σ = some (.bool (decide (rightS s ∧ cre s id)), σ) := by
 intro k s id σ hyp0 hk
 obtain ⟨k, rfl⟩ : ∃ k', k = k' + 60 := ⟨k - 60, by omega⟩
 have hw1 := hyp0.1
 have hw2 := hyp0.2
 have hlm : ((s.objs).map E).length = s.objs.length := List.length_map _
 have hll : ∀ z, ((s.ls z).map I).length = (s.ls z).length := fun z => List.length_map _
 refine reader_of Tryz.func37 rfl (by simp only [AV.frees, AV.free, fr_I, fr_E, fr_cO, fr_cL, fr_cS, Bool.and_self]) ?_
 refine X.seq (X.region (OK.seg 2 (by kernel_rfl) (OK.nil ?_)))
 refine X.seq (X.region (OK.seg 1 (by kernel_rfl) ?_))
 refine OK.rd [.agg (cS s)] [.agg (cS s)] (errS s) rfl (by kernel_rfl) rfl (by kernel_rfl) (by kernel_rfl) (by kernel_rfl) (by kernel_rfl) (by kernel_rfl) (Check_w _ _ _ hyp0 (by omega)) ?_
 rcases errS_cases s with ⟨hRh1, heh1⟩ | ⟨hRh1, vh1, heh1⟩ <;> rw [heh1]
 rotate_left
 ·
  refine OK.seg 7 (by kernel_rfl) (OK.nil ?_)
  refine X.ret ?_
  exact ⟨rfl, giv (r := .bool false) (by kernel_rfl) (bool_f (p := rightS s ∧ cre s id) (by intro hh; first | exact absurd hh.1 (by assumption) | exact absurd hh.2 (by assumption)))⟩
 refine OK.seg 4 (by kernel_rfl) ?_
 refine OK.rdP [.agg (cS s), I id] [.agg (cS s), I id] (cre s id) rfl (by kernel_rfl) rfl (by kernel_rfl) (by kernel_rfl) (by kernel_rfl) (by kernel_rfl) (by kernel_rfl) (creature_w _ _ _ _ hyp0 ((right_of (by assumption)).2.1) (by omega)) (fun h3 => ?_) (fun h3 => ?_)
 ·
  refine OK.seg 2 (by kernel_rfl) (OK.nil ?_)
  refine X.ret ?_
  exact ⟨rfl, giv (r := .bool true) (by kernel_rfl) (bool_t (p := rightS s ∧ cre s id) (by exact ⟨by assumption, by assumption⟩))⟩
 refine OK.seg 2 (by kernel_rfl) (OK.nil ?_)
 refine X.ret ?_
 exact ⟨rfl, giv (r := .bool false) (by kernel_rfl) (bool_f (p := rightS s ∧ cre s id) (by intro hh; first | exact absurd hh.1 (by assumption) | exact absurd hh.2 (by assumption)))⟩

set_option maxHeartbeats 1000000 in
theorem Beasts_w : ∀ k (s : St) (p : Int) σ, wf s → 1000000 ≤ k → readW (callW Tryz.prog (exec Tryz.prog cfg k)) 38 [.agg (cS s), I p] σ = some (.list ((bea s p).map I) false, σ) := by
 intro k s p σ hyp0 hk
 obtain ⟨k, rfl⟩ : ∃ k', k = k' + 60 := ⟨k - 60, by omega⟩
 have hw1 := hyp0.1
 have hw2 := hyp0.2
 have hlm : ((s.objs).map E).length = s.objs.length := List.length_map _
 have hll : ∀ z, ((s.ls z).map I).length = (s.ls z).length := fun z => List.length_map _
 have hl8 := hll 8; have hw8 := hw2 8
 refine reader_of Tryz.func38 rfl (by simp only [AV.frees, AV.free, fr_I, fr_E, fr_cO, fr_cL, fr_cS, Bool.and_self]) ?_
 refine X.seq (X.region (OK.seg 2 (by kernel_rfl) (OK.nil ?_)))
 refine X.seq (X.seq (X.region (OK.seg 1 (by kernel_rfl) ?_)))
 refine OK.rd [.agg (cS s)] [.agg (cS s)] (errS s) rfl (by kernel_rfl) rfl (by kernel_rfl) (by kernel_rfl) (by kernel_rfl) (by kernel_rfl) (by kernel_rfl) (Check_w _ _ _ hyp0 (by omega)) ?_
 rcases errS_cases s with ⟨hRh1, heh1⟩ | ⟨hRh1, vh1, heh1⟩ <;> rw [heh1]
 rotate_left
 ·
  refine OK.seg 1 (by kernel_rfl) (OK.nil ?_)
  refine X.condT (by kernel_rfl) ?_
  refine X.seq (X.region (OK.seg 1 (by kernel_rfl) (OK.nil ?_)))
  refine X.ret ?_
  exact ⟨rfl, giv (r := .list [] false) (by kernel_rfl) (by first | exact bea_wrong (by assumption) | exact bea_right (ys := []) (by assumption) (flt_all (by assumption) (by omega)))⟩
 refine OK.seg 1 (by kernel_rfl) (OK.nil ?_)
 refine X.condF (by kernel_rfl) ?_
 refine X.skip (X.seq (X.region (OK.seg 1 (by kernel_rfl) (OK.nil ?_))))
 refine X.seq (X.seq (X.region (OK.seg 5 (by kernel_rfl) (OK.nil ?_))))
 refine X.block ?_
 refine X.rounds3 (K := 600000) [7, 16, 17, 18, 19, 20, 21, 22, 23, 24, 25, 26, 27, 28, 29, 30, 31, 32, 33, 34, 35, 36] (by kernel_rfl) rfl (fun m fr σ => ∃ i : Nat, m = (s.ls 8).length - i ∧ i ≤ (s.ls 8).length ∧ ((flt (bePr s p) ((s.ls 8).take i) = [] ∧ clearA' [7, 16, 17, 18, 19, 20, 21, 22, 23, 24, 25, 26, 27, 28, 29, 30, 31, 32, 33, 34, 35, 36] fr = ([.agg (cS s), I p, .ptr 0 0, undefA, .list [] true, .list [] true, undefA, .opq, .agg (cS s), .nilIface, .bool false, .ptr 0 1, .ptr 0 9, .list ((s.ls 8).map I) false, I ((((s.ls 8).map I).length : Nat) : Int), I ((i : Nat) : Int)] ++ List.replicate 21 .opq ++ [undefA] : List AV) ∧ σ = [.box (cS s) false]) ∨ ∃ (ys : List Int) (yg yn : Nat), yn = ys.length ∧ flt (bePr s p) ((s.ls 8).take i) = ys ∧ clearA' [7, 16, 17, 18, 19, 20, 21, 22, 23, 24, 25, 26, 27, 28, 29, 30, 31, 32, 33, 34, 35, 36] fr = ([.agg (cS s), I p, .ptr 0 0, undefA, .list [] true, .sl 1 yg 0 yn, undefA, .opq, .agg (cS s), .nilIface, .bool false, .ptr 0 1, .ptr 0 9, .list ((s.ls 8).map I) false, I ((((s.ls 8).map I).length : Nat) : Int), I ((i : Nat) : Int)] ++ List.replicate 21 .opq ++ [undefA] : List AV) ∧ σ = [.box (cS s) false, .rows ((ys).map I) yg 1 false])) ?_ (m := (s.ls 8).length) ⟨0, rfl, Nat.zero_le _, .inl ⟨rfl, by kernel_rfl, by kernel_rfl⟩⟩ ?_
 rotate_left
 · omega
 rintro m7 fr σ ⟨i, h3, h4, ⟨h5, h6, rfl⟩ | ⟨ys, yg, yn, rfl, h5, h6, rfl⟩⟩ k h7
 ·
  rw [h6]; clear h6
  have hyl := flt_len h5
  obtain ⟨k, rfl⟩ : ∃ k', k = k' + 60 := ⟨k - 60, by omega⟩
  refine X.seq (X.region ?_)
  refine OK.dec (((i : Nat) : Int) < ((((s.ls 8).map I).length : Nat) : Int)) (by kernel_rfl) (by kernel_rfl) (fun h8 => ?_) (fun h8 => ?_)
  rotate_left
  ·
   refine OK.nil ?_
   refine X.seq (X.condF (by kernel_rfl) ?_)
   refine X.exit ?_
   show X _ _ _ _ _ _ _ _ _
   refine X.seq (X.region (OK.seg 2 (by kernel_rfl) (OK.nil ?_)))
   refine X.ret ?_
   exact ⟨rfl, giv (r := .list [] false) (by kernel_rfl) (by first | exact bea_wrong (by assumption) | exact bea_right (ys := []) (by assumption) (flt_all (by assumption) (by omega)))⟩
  refine OK.nil ?_
  refine X.seq (X.condT (by kernel_rfl) ?_)
  refine X.skip (X.seq (X.block (X.seq (X.region ?_))))
  refine OK.val (.ro [I (((s.ls 8).getD i 0))] 0) (by kernel_rfl) (fun _ => idx_map (sz := 1) (g := I) (d := 0) (xs := s.ls 8) (ex := false) (k := .i64) (n := ((i : Nat) : Int)) rfl Tryz.underlying23 (by kernel_rfl) (by kernel_rfl) (by kernel_rfl) (by kernel_rfl) (by first | omega | (have q := ids8 (by assumption) (by omega : i < _); omega)) (by first | omega | (have q := ids8 (by assumption) (by omega : i < _); omega))) ?_
  refine OK.seg 2 (by kernel_rfl) (OK.nil ?_)
  refine X.seq (X.region (OK.seg 2 (by kernel_rfl) ?_))
  refine OK.rdP [.agg (cS s), I (((s.ls 8).getD i 0))] [.agg (cS s), I (((s.ls 8).getD i 0))] (cre s (((s.ls 8).getD i 0))) rfl (by kernel_rfl) rfl (by kernel_rfl) (by kernel_rfl) (by kernel_rfl) (by kernel_rfl) (by kernel_rfl) (creature_w _ _ _ _ hyp0 ((right_of (by assumption)).2.1) (by omega)) (fun h9 => ?_) (fun h9 => ?_)
  rotate_left
  ·
   refine OK.seg 10 (by kernel_rfl) (OK.nil ?_)
   refine X.condF (by kernel_rfl) ?_
   refine X.skip (X.region ?_)
   refine OK.val (I ((i + 1 : Nat) : Int)) (by kernel_rfl) (fun _ => add_op (k := .i64) (a := ((i : Nat) : Int)) (b := 1) rfl (by kernel_rfl) (by kernel_rfl) (by rw [wrap64] <;> first | omega | (have q := ids8 (by assumption) (by omega : i < _); omega))) ?_
   refine OK.seg 1 (by kernel_rfl) (OK.nil ?_)
   have hsk := fun (q : ¬ (bePr s p) ((s.ls 8).getD i 0)) => fskip h5 (by omega) q
   have had := fun (q : (bePr s p) ((s.ls 8).getD i 0)) => fadd h5 (by omega) q
   exact ⟨([.agg (cS s), I p, .ptr 0 0, undefA, .list [] true, .list [] true, undefA, .opq, .agg (cS s), .nilIface, .bool false, .ptr 0 1, .ptr 0 9, .list ((s.ls 8).map I) false, I ((((s.ls 8).map I).length : Nat) : Int), I ((i + 1 : Nat) : Int)] ++ List.replicate 21 .opq ++ [undefA] : List AV), [.box (cS s) false], [0, 0, 0], [[]], by kernel_rfl, by kernel_rfl, by simp only [bS], by simp only [bS], by kernel_rfl, m7 - 1, by omega, i + 1, by omega, by omega, .inl ⟨hsk (by intro q; first | exact absurd q.1 (by assumption) | exact absurd q.2 (by assumption)), by kernel_rfl, by kernel_rfl⟩⟩
  refine OK.seg 4 (by kernel_rfl) ?_
  refine OK.val (.ro (cO ((s.objs).getD (((s.ls 8).getD i 0)).toNat o0)) 0) (by kernel_rfl) (fun _ => idx_map (sz := 18) (g := E) (d := o0) (xs := s.objs) (ex := false) (k := .i64) (n := (((s.ls 8).getD i 0))) rfl Tryz.underlying22 (by kernel_rfl) (by kernel_rfl) (by kernel_rfl) (by kernel_rfl) (by first | omega | (have q := ids8 (by assumption) (by omega : i < _); omega)) (by first | omega | (have q := ids8 (by assumption) (by omega : i < _); omega))) ?_
  refine OK.seg 3 (by kernel_rfl) ?_
  refine OK.dec ((((s.objs).getD (((s.ls 8).getD i 0)).toNat o0) 2) = p) (by kernel_rfl) (by kernel_rfl) (fun h10 => ?_) (fun h10 => ?_)
  rotate_left
  ·
   refine OK.seg 1 (by kernel_rfl) (OK.nil ?_)
   refine X.condF (by kernel_rfl) ?_
   refine X.skip (X.region ?_)
   refine OK.val (I ((i + 1 : Nat) : Int)) (by kernel_rfl) (fun _ => add_op (k := .i64) (a := ((i : Nat) : Int)) (b := 1) rfl (by kernel_rfl) (by kernel_rfl) (by rw [wrap64] <;> first | omega | (have q := ids8 (by assumption) (by omega : i < _); omega))) ?_
   refine OK.seg 1 (by kernel_rfl) (OK.nil ?_)
   have hsk := fun (q : ¬ (bePr s p) ((s.ls 8).getD i 0)) => fskip h5 (by omega) q
   have had := fun (q : (bePr s p) ((s.ls 8).getD i 0)) => fadd h5 (by omega) q
   exact ⟨([.agg (cS s), I p, .ptr 0 0, undefA, .list [] true, .list [] true, undefA, .opq, .agg (cS s), .nilIface, .bool false, .ptr 0 1, .ptr 0 9, .list ((s.ls 8).map I) false, I ((((s.ls 8).map I).length : Nat) : Int), I ((i + 1 : Nat) : Int)] ++ List.replicate 21 .opq ++ [undefA] : List AV), [.box (cS s) false], [0, 0, 0], [[]], by kernel_rfl, by kernel_rfl, by simp only [bS], by simp only [bS], by kernel_rfl, m7 - 1, by omega, i + 1, by omega, by omega, .inl ⟨hsk (by intro q; first | exact absurd q.1 (by assumption) | exact absurd q.2 (by assumption)), by kernel_rfl, by kernel_rfl⟩⟩
  refine OK.seg 1 (by kernel_rfl) (OK.nil ?_)
  refine X.condT (by kernel_rfl) ?_
  refine X.region (OK.seg 5 (by kernel_rfl) (OK.nil ?_))
  refine X.region ?_
  refine OK.val (I ((i + 1 : Nat) : Int)) (by kernel_rfl) (fun _ => add_op (k := .i64) (a := ((i : Nat) : Int)) (b := 1) rfl (by kernel_rfl) (by kernel_rfl) (by rw [wrap64] <;> first | omega | (have q := ids8 (by assumption) (by omega : i < _); omega))) ?_
  refine OK.seg 1 (by kernel_rfl) (OK.nil ?_)
  have hsk := fun (q : ¬ (bePr s p) ((s.ls 8).getD i 0)) => fskip h5 (by omega) q
  have had := fun (q : (bePr s p) ((s.ls 8).getD i 0)) => fadd h5 (by omega) q
  exact ⟨([.agg (cS s), I p, .ptr 0 0, undefA, .list [] true, .sl 1 0 0 1, undefA, .opq, .agg (cS s), .nilIface, .bool false, .ptr 0 1, .ptr 0 9, .list ((s.ls 8).map I) false, I ((((s.ls 8).map I).length : Nat) : Int), I ((i + 1 : Nat) : Int)] ++ List.replicate 21 .opq ++ [undefA] : List AV), [.box (cS s) false, .rows (([(((s.ls 8).getD i 0))]).map I) 0 1 false], [0, 1, 0, 0], [[], []], by kernel_rfl, by kernel_rfl, by simp only [bS], by simp only [bS], by kernel_rfl, m7 - 1, by omega, i + 1, by omega, by omega, .inr ⟨[(s.ls 8).getD i 0], 0, 1, rfl, had (by exact ⟨by assumption, by assumption⟩), by kernel_rfl, by kernel_rfl⟩⟩
 ·
  rw [h6]; clear h6
  have hyl := flt_len h5
  obtain ⟨k, rfl⟩ : ∃ k', k = k' + 60 := ⟨k - 60, by omega⟩
  refine X.seq (X.region ?_)
  refine OK.dec (((i : Nat) : Int) < ((((s.ls 8).map I).length : Nat) : Int)) (by kernel_rfl) (by kernel_rfl) (fun h11 => ?_) (fun h11 => ?_)
  rotate_left
  ·
   refine OK.nil ?_
   refine X.seq (X.condF (by kernel_rfl) ?_)
   refine X.exit ?_
   show X _ _ _ _ _ _ _ _ _
   refine X.seq (X.region (OK.seg 2 (by kernel_rfl) (OK.nil ?_)))
   refine X.ret ?_
   exact ⟨rfl, giv (gives_sl (g := I) (fun _ _ => rfl) (fun _ => rfl) (b := 1) (n := yg) (ys := ys) (sz := 1) (by kernel_rfl) (by kernel_rfl)) (by first | exact bea_wrong (by assumption) | exact bea_right (ys := ys) (by assumption) (flt_all (by assumption) (by omega)))⟩
  refine OK.nil ?_
  refine X.seq (X.condT (by kernel_rfl) ?_)
  refine X.skip (X.seq (X.block (X.seq (X.region ?_))))
  refine OK.val (.ro [I (((s.ls 8).getD i 0))] 0) (by kernel_rfl) (fun _ => idx_map (sz := 1) (g := I) (d := 0) (xs := s.ls 8) (ex := false) (k := .i64) (n := ((i : Nat) : Int)) rfl Tryz.underlying23 (by kernel_rfl) (by kernel_rfl) (by kernel_rfl) (by kernel_rfl) (by first | omega | (have q := ids8 (by assumption) (by omega : i < _); omega)) (by first | omega | (have q := ids8 (by assumption) (by omega : i < _); omega))) ?_
  refine OK.seg 2 (by kernel_rfl) (OK.nil ?_)
  refine X.seq (X.region (OK.seg 2 (by kernel_rfl) ?_))
  refine OK.rdP [.agg (cS s), I (((s.ls 8).getD i 0))] [.agg (cS s), I (((s.ls 8).getD i 0))] (cre s (((s.ls 8).getD i 0))) rfl (by kernel_rfl) rfl (by kernel_rfl) (by kernel_rfl) (by kernel_rfl) (by kernel_rfl) (by kernel_rfl) (creature_w _ _ _ _ hyp0 ((right_of (by assumption)).2.1) (by omega)) (fun h12 => ?_) (fun h12 => ?_)
  rotate_left
  ·
   refine OK.seg 10 (by kernel_rfl) (OK.nil ?_)
   refine X.condF (by kernel_rfl) ?_
   refine X.skip (X.region ?_)
   refine OK.val (I ((i + 1 : Nat) : Int)) (by kernel_rfl) (fun _ => add_op (k := .i64) (a := ((i : Nat) : Int)) (b := 1) rfl (by kernel_rfl) (by kernel_rfl) (by rw [wrap64] <;> first | omega | (have q := ids8 (by assumption) (by omega : i < _); omega))) ?_
   refine OK.seg 1 (by kernel_rfl) (OK.nil ?_)
   have hsk := fun (q : ¬ (bePr s p) ((s.ls 8).getD i 0)) => fskip h5 (by omega) q
   have had := fun (q : (bePr s p) ((s.ls 8).getD i 0)) => fadd h5 (by omega) q
   exact ⟨([.agg (cS s), I p, .ptr 0 0, undefA, .list [] true, .sl 1 yg 0 ys.length, undefA, .opq, .agg (cS s), .nilIface, .bool false, .ptr 0 1, .ptr 0 9, .list ((s.ls 8).map I) false, I ((((s.ls 8).map I).length : Nat) : Int), I ((i + 1 : Nat) : Int)] ++ List.replicate 21 .opq ++ [undefA] : List AV), [.box (cS s) false, .rows ((ys).map I) yg 1 false], [0, 1, 0, 0], [[], []], by kernel_rfl, by kernel_rfl, by simp only [bS], by simp only [bS], by kernel_rfl, m7 - 1, by omega, i + 1, by omega, by omega, .inr ⟨ys, yg, ys.length, rfl, hsk (by intro q; first | exact absurd q.1 (by assumption) | exact absurd q.2 (by assumption)), by kernel_rfl, by kernel_rfl⟩⟩
  refine OK.seg 4 (by kernel_rfl) ?_
  refine OK.val (.ro (cO ((s.objs).getD (((s.ls 8).getD i 0)).toNat o0)) 0) (by kernel_rfl) (fun _ => idx_map (sz := 18) (g := E) (d := o0) (xs := s.objs) (ex := false) (k := .i64) (n := (((s.ls 8).getD i 0))) rfl Tryz.underlying22 (by kernel_rfl) (by kernel_rfl) (by kernel_rfl) (by kernel_rfl) (by first | omega | (have q := ids8 (by assumption) (by omega : i < _); omega)) (by first | omega | (have q := ids8 (by assumption) (by omega : i < _); omega))) ?_
  refine OK.seg 3 (by kernel_rfl) ?_
  refine OK.dec ((((s.objs).getD (((s.ls 8).getD i 0)).toNat o0) 2) = p) (by kernel_rfl) (by kernel_rfl) (fun h13 => ?_) (fun h13 => ?_)
  rotate_left
  ·
   refine OK.seg 1 (by kernel_rfl) (OK.nil ?_)
   refine X.condF (by kernel_rfl) ?_
   refine X.skip (X.region ?_)
   refine OK.val (I ((i + 1 : Nat) : Int)) (by kernel_rfl) (fun _ => add_op (k := .i64) (a := ((i : Nat) : Int)) (b := 1) rfl (by kernel_rfl) (by kernel_rfl) (by rw [wrap64] <;> first | omega | (have q := ids8 (by assumption) (by omega : i < _); omega))) ?_
   refine OK.seg 1 (by kernel_rfl) (OK.nil ?_)
   have hsk := fun (q : ¬ (bePr s p) ((s.ls 8).getD i 0)) => fskip h5 (by omega) q
   have had := fun (q : (bePr s p) ((s.ls 8).getD i 0)) => fadd h5 (by omega) q
   exact ⟨([.agg (cS s), I p, .ptr 0 0, undefA, .list [] true, .sl 1 yg 0 ys.length, undefA, .opq, .agg (cS s), .nilIface, .bool false, .ptr 0 1, .ptr 0 9, .list ((s.ls 8).map I) false, I ((((s.ls 8).map I).length : Nat) : Int), I ((i + 1 : Nat) : Int)] ++ List.replicate 21 .opq ++ [undefA] : List AV), [.box (cS s) false, .rows ((ys).map I) yg 1 false], [0, 1, 0, 0], [[], []], by kernel_rfl, by kernel_rfl, by simp only [bS], by simp only [bS], by kernel_rfl, m7 - 1, by omega, i + 1, by omega, by omega, .inr ⟨ys, yg, ys.length, rfl, hsk (by intro q; first | exact absurd q.1 (by assumption) | exact absurd q.2 (by assumption)), by kernel_rfl, by kernel_rfl⟩⟩
  refine OK.seg 1 (by kernel_rfl) (OK.nil ?_)
  refine X.condT (by kernel_rfl) ?_
  refine X.region (OK.seg 3 (by kernel_rfl) ?_)
  refine OK.opS (.sl 1 (yg + 1) 0 (ys.length + 1)) [.box (cS s) false, .rows (((ys) ++ [(((s.ls 8).getD i 0))]).map I) (yg + 1) 1 false] (by kernel_rfl) (ap_sl (b := 1) (n := yg) (ex := true) (g := I) (ys := ys) (v := (((s.ls 8).getD i 0))) rfl rfl rfl rfl Tryz.underlying23 Tryz.underlying23 (by kernel_rfl) (by_ := 8) (by kernel_rfl) (z := I 0) (by kernel_rfl) rfl (by omega) (fun _ => rfl) (fun _ => rfl) (by kernel_rfl) (by kernel_rfl) (Nat.zero_le _) (ap_bd (by omega)) (by kernel_rfl)) ?_
  refine OK.seg 1 (by kernel_rfl) (OK.nil ?_)
  refine X.region ?_
  refine OK.val (I ((i + 1 : Nat) : Int)) (by kernel_rfl) (fun _ => add_op (k := .i64) (a := ((i : Nat) : Int)) (b := 1) rfl (by kernel_rfl) (by kernel_rfl) (by rw [wrap64] <;> first | omega | (have q := ids8 (by assumption) (by omega : i < _); omega))) ?_
  refine OK.seg 1 (by kernel_rfl) (OK.nil ?_)
  have hsk := fun (q : ¬ (bePr s p) ((s.ls 8).getD i 0)) => fskip h5 (by omega) q
  have had := fun (q : (bePr s p) ((s.ls 8).getD i 0)) => fadd h5 (by omega) q
  exact ⟨([.agg (cS s), I p, .ptr 0 0, undefA, .list [] true, .sl 1 (yg + 1) 0 (ys.length + 1), undefA, .opq, .agg (cS s), .nilIface, .bool false, .ptr 0 1, .ptr 0 9, .list ((s.ls 8).map I) false, I ((((s.ls 8).map I).length : Nat) : Int), I ((i + 1 : Nat) : Int)] ++ List.replicate 21 .opq ++ [undefA] : List AV), [.box (cS s) false, .rows (((ys) ++ [(((s.ls 8).getD i 0))]).map I) (yg + 1) 1 false], [0, 1, 0, 0], [[], []], by kernel_rfl, by kernel_rfl, by simp only [bS], by simp only [bS], by kernel_rfl, m7 - 1, by omega, i + 1, by omega, by omega, .inr ⟨ys ++ [(s.ls 8).getD i 0], yg + 1, ys.length + 1, by simp, had (by exact ⟨by assumption, by assumption⟩), by kernel_rfl, by kernel_rfl⟩⟩

set_option maxHeartbeats 1000000 in
theorem rBeasts_w : ∀ k (s : St) (p : Int) σ, wf s → rightS s → 1000000 ≤ k → readW (callW Tryz.prog (exec Tryz.prog cfg k)) 40 [.agg (cS s), I p] σ = some (.list ((bea s p).map I) false, σ) := by
 intro k s p σ hyp0 hyp1 hk
 obtain ⟨k, rfl⟩ : ∃ k', k = k' + 60 := ⟨k - 60, by omega⟩
 have hw1 := hyp0.1
 have hw2 := hyp0.2
 have hlm : ((s.objs).map E).length = s.objs.length := List.length_map _
 have hll : ∀ z, ((s.ls z).map I).length = (s.ls z).length := fun z => List.length_map _
 have hl8 := hll 8; have hw8 := hw2 8
 refine reader_of Tryz.func40 rfl (by simp only [AV.frees, AV.free, fr_I, fr_E, fr_cO, fr_cL, fr_cS, Bool.and_self]) ?_
 refine X.seq (X.region (OK.seg 2 (by kernel_rfl) (OK.nil ?_)))
 refine X.seq (X.region (OK.seg 2 (by kernel_rfl) (OK.nil ?_)))
 refine X.seq (X.seq (X.region (OK.seg 5 (by kernel_rfl) (OK.nil ?_))))
 refine X.block ?_
 refine X.rounds3 (K := 600000) [7, 14, 15, 16, 17, 18, 19, 20, 21, 22, 23, 24, 25, 26, 27, 28, 29, 30, 31, 32, 33, 34] (by kernel_rfl) rfl (fun m fr σ => ∃ i : Nat, m = (s.ls 8).length - i ∧ i ≤ (s.ls 8).length ∧ ((flt (bePr s p) ((s.ls 8).take i) = [] ∧ clearA' [7, 14, 15, 16, 17, 18, 19, 20, 21, 22, 23, 24, 25, 26, 27, 28, 29, 30, 31, 32, 33, 34] fr = ([.agg (cS s), I p, .ptr 0 0, undefA, .list [] true, .list [] true, undefA, .opq, .list [] true, .ptr 0 1, .ptr 0 9, .list ((s.ls 8).map I) false, I ((((s.ls 8).map I).length : Nat) : Int), I ((i : Nat) : Int)] ++ List.replicate 21 .opq ++ [undefA] : List AV) ∧ σ = [.box (cS s) false]) ∨ ∃ (ys : List Int) (yg yn : Nat), yn = ys.length ∧ flt (bePr s p) ((s.ls 8).take i) = ys ∧ clearA' [7, 14, 15, 16, 17, 18, 19, 20, 21, 22, 23, 24, 25, 26, 27, 28, 29, 30, 31, 32, 33, 34] fr = ([.agg (cS s), I p, .ptr 0 0, undefA, .list [] true, .sl 1 yg 0 yn, undefA, .opq, .list [] true, .ptr 0 1, .ptr 0 9, .list ((s.ls 8).map I) false, I ((((s.ls 8).map I).length : Nat) : Int), I ((i : Nat) : Int)] ++ List.replicate 21 .opq ++ [undefA] : List AV) ∧ σ = [.box (cS s) false, .rows ((ys).map I) yg 1 false])) ?_ (m := (s.ls 8).length) ⟨0, rfl, Nat.zero_le _, .inl ⟨rfl, by kernel_rfl, by kernel_rfl⟩⟩ ?_
 rotate_left
 · omega
 rintro m5 fr σ ⟨i, h1, h2, ⟨h3, h4, rfl⟩ | ⟨ys, yg, yn, rfl, h3, h4, rfl⟩⟩ k h5
 ·
  rw [h4]; clear h4
  have hyl := flt_len h3
  obtain ⟨k, rfl⟩ : ∃ k', k = k' + 60 := ⟨k - 60, by omega⟩
  refine X.seq (X.region ?_)
  refine OK.dec (((i : Nat) : Int) < ((((s.ls 8).map I).length : Nat) : Int)) (by kernel_rfl) (by kernel_rfl) (fun h6 => ?_) (fun h6 => ?_)
  rotate_left
  ·
   refine OK.nil ?_
   refine X.seq (X.condF (by kernel_rfl) ?_)
   refine X.exit ?_
   show X _ _ _ _ _ _ _ _ _
   refine X.seq (X.region (OK.seg 2 (by kernel_rfl) (OK.nil ?_)))
   refine X.ret ?_
   exact ⟨rfl, giv (r := .list [] false) (by kernel_rfl) (by first | exact bea_wrong (by assumption) | exact bea_right (ys := []) (by assumption) (flt_all (by assumption) (by omega)))⟩
  refine OK.nil ?_
  refine X.seq (X.condT (by kernel_rfl) ?_)
  refine X.skip (X.seq (X.block (X.seq (X.region ?_))))
  refine OK.val (.ro [I (((s.ls 8).getD i 0))] 0) (by kernel_rfl) (fun _ => idx_map (sz := 1) (g := I) (d := 0) (xs := s.ls 8) (ex := false) (k := .i64) (n := ((i : Nat) : Int)) rfl Tryz.underlying23 (by kernel_rfl) (by kernel_rfl) (by kernel_rfl) (by kernel_rfl) (by first | omega | (have q := ids8 (by assumption) (by omega : i < _); omega)) (by first | omega | (have q := ids8 (by assumption) (by omega : i < _); omega))) ?_
  refine OK.seg 2 (by kernel_rfl) (OK.nil ?_)
  refine X.seq (X.region (OK.seg 2 (by kernel_rfl) ?_))
  refine OK.rdP [.agg (cS s), I (((s.ls 8).getD i 0))] [.agg (cS s), I (((s.ls 8).getD i 0))] (cre s (((s.ls 8).getD i 0))) rfl (by kernel_rfl) rfl (by kernel_rfl) (by kernel_rfl) (by kernel_rfl) (by kernel_rfl) (by kernel_rfl) (rIs_w _ _ _ _ hyp0 ((right_of (by assumption)).2.1) (by omega)) (fun h7 => ?_) (fun h7 => ?_)
  rotate_left
  ·
   refine OK.seg 10 (by kernel_rfl) (OK.nil ?_)
   refine X.condF (by kernel_rfl) ?_
   refine X.skip (X.region ?_)
   refine OK.val (I ((i + 1 : Nat) : Int)) (by kernel_rfl) (fun _ => add_op (k := .i64) (a := ((i : Nat) : Int)) (b := 1) rfl (by kernel_rfl) (by kernel_rfl) (by rw [wrap64] <;> first | omega | (have q := ids8 (by assumption) (by omega : i < _); omega))) ?_
   refine OK.seg 1 (by kernel_rfl) (OK.nil ?_)
   have hsk := fun (q : ¬ (bePr s p) ((s.ls 8).getD i 0)) => fskip h3 (by omega) q
   have had := fun (q : (bePr s p) ((s.ls 8).getD i 0)) => fadd h3 (by omega) q
   exact ⟨([.agg (cS s), I p, .ptr 0 0, undefA, .list [] true, .list [] true, undefA, .opq, .list [] true, .ptr 0 1, .ptr 0 9, .list ((s.ls 8).map I) false, I ((((s.ls 8).map I).length : Nat) : Int), I ((i + 1 : Nat) : Int)] ++ List.replicate 21 .opq ++ [undefA] : List AV), [.box (cS s) false], [0, 0, 0], [[]], by kernel_rfl, by kernel_rfl, by simp only [bS], by simp only [bS], by kernel_rfl, m5 - 1, by omega, i + 1, by omega, by omega, .inl ⟨hsk (by intro q; first | exact absurd q.1 (by assumption) | exact absurd q.2 (by assumption)), by kernel_rfl, by kernel_rfl⟩⟩
  refine OK.seg 4 (by kernel_rfl) ?_
  refine OK.val (.ro (cO ((s.objs).getD (((s.ls 8).getD i 0)).toNat o0)) 0) (by kernel_rfl) (fun _ => idx_map (sz := 18) (g := E) (d := o0) (xs := s.objs) (ex := false) (k := .i64) (n := (((s.ls 8).getD i 0))) rfl Tryz.underlying22 (by kernel_rfl) (by kernel_rfl) (by kernel_rfl) (by kernel_rfl) (by first | omega | (have q := ids8 (by assumption) (by omega : i < _); omega)) (by first | omega | (have q := ids8 (by assumption) (by omega : i < _); omega))) ?_
  refine OK.seg 3 (by kernel_rfl) ?_
  refine OK.dec ((((s.objs).getD (((s.ls 8).getD i 0)).toNat o0) 2) = p) (by kernel_rfl) (by kernel_rfl) (fun h8 => ?_) (fun h8 => ?_)
  rotate_left
  ·
   refine OK.seg 1 (by kernel_rfl) (OK.nil ?_)
   refine X.condF (by kernel_rfl) ?_
   refine X.skip (X.region ?_)
   refine OK.val (I ((i + 1 : Nat) : Int)) (by kernel_rfl) (fun _ => add_op (k := .i64) (a := ((i : Nat) : Int)) (b := 1) rfl (by kernel_rfl) (by kernel_rfl) (by rw [wrap64] <;> first | omega | (have q := ids8 (by assumption) (by omega : i < _); omega))) ?_
   refine OK.seg 1 (by kernel_rfl) (OK.nil ?_)
   have hsk := fun (q : ¬ (bePr s p) ((s.ls 8).getD i 0)) => fskip h3 (by omega) q
   have had := fun (q : (bePr s p) ((s.ls 8).getD i 0)) => fadd h3 (by omega) q
   exact ⟨([.agg (cS s), I p, .ptr 0 0, undefA, .list [] true, .list [] true, undefA, .opq, .list [] true, .ptr 0 1, .ptr 0 9, .list ((s.ls 8).map I) false, I ((((s.ls 8).map I).length : Nat) : Int), I ((i + 1 : Nat) : Int)] ++ List.replicate 21 .opq ++ [undefA] : List AV), [.box (cS s) false], [0, 0, 0], [[]], by kernel_rfl, by kernel_rfl, by simp only [bS], by simp only [bS], by kernel_rfl, m5 - 1, by omega, i + 1, by omega, by omega, .inl ⟨hsk (by intro q; first | exact absurd q.1 (by assumption) | exact absurd q.2 (by assumption)), by kernel_rfl, by kernel_rfl⟩⟩
  refine OK.seg 1 (by kernel_rfl) (OK.nil ?_)
  refine X.condT (by kernel_rfl) ?_
  refine X.region (OK.seg 5 (by kernel_rfl) (OK.nil ?_))
  refine X.region ?_
  refine OK.val (I ((i + 1 : Nat) : Int)) (by kernel_rfl) (fun _ => add_op (k := .i64) (a := ((i : Nat) : Int)) (b := 1) rfl (by kernel_rfl) (by kernel_rfl) (by rw [wrap64] <;> first | omega | (have q := ids8 (by assumption) (by omega : i < _); omega))) ?_
  refine OK.seg 1 (by kernel_rfl) (OK.nil ?_)
  have hsk := fun (q : ¬ (bePr s p) ((s.ls 8).getD i 0)) => fskip h3 (by omega) q
  have had := fun (q : (bePr s p) ((s.ls 8).getD i 0)) => fadd h3 (by omega) q
  exact ⟨([.agg (cS s), I p, .ptr 0 0, undefA, .list [] true, .sl 1 0 0 1, undefA, .opq, .list [] true, .ptr 0 1, .ptr 0 9, .list ((s.ls 8).map I) false, I ((((s.ls 8).map I).length : Nat) : Int), I ((i + 1 : Nat) : Int)] ++ List.replicate 21 .opq ++ [undefA] : List AV), [.box (cS s) false, .rows (([(((s.ls 8).getD i 0))]).map I) 0 1 false], [0, 1, 0, 0], [[], []], by kernel_rfl, by kernel_rfl, by simp only [bS], by simp only [bS], by kernel_rfl, m5 - 1, by omega, i + 1, by omega, by omega, .inr ⟨[(s.ls 8).getD i 0], 0, 1, rfl, had (by exact ⟨by assumption, by assumption⟩), by kernel_rfl, by kernel_rfl⟩⟩
 ·
  rw [h4]; clear h4
  have hyl := flt_len h3
  obtain ⟨k, rfl⟩ : ∃ k', k = k' + 60 := ⟨k - 60, by omega⟩
  refine X.seq (X.region ?_)
  refine OK.dec (((i : Nat) : Int) < ((((s.ls 8).map I).length : Nat) : Int)) (by kernel_rfl) (by kernel_rfl) (fun h9 => ?_) (fun h9 => ?_)
  rotate_left
  ·
   refine OK.nil ?_
   refine X.seq (X.condF (by kernel_rfl) ?_)
   refine X.exit ?_
   show X _ _ _ _ _ _ _ _ _
   refine X.seq (X.region (OK.seg 2 (by kernel_rfl) (OK.nil ?_)))
   refine X.ret ?_
   exact ⟨rfl, giv (gives_sl (g := I) (fun _ _ => rfl) (fun _ => rfl) (b := 1) (n := yg) (ys := ys) (sz := 1) (by kernel_rfl) (by kernel_rfl)) (by first | exact bea_wrong (by assumption) | exact bea_right (ys := ys) (by assumption) (flt_all (by assumption) (by omega)))⟩
  refine OK.nil ?_
  refine X.seq (X.condT (by kernel_rfl) ?_)
  refine X.skip (X.seq (X.block (X.seq (X.region ?_))))
  refine OK.val (.ro [I (((s.ls 8).getD i 0))] 0) (by kernel_rfl) (fun _ => idx_map (sz := 1) (g := I) (d := 0) (xs := s.ls 8) (ex := false) (k := .i64) (n := ((i : Nat) : Int)) rfl Tryz.underlying23 (by kernel_rfl) (by kernel_rfl) (by kernel_rfl) (by kernel_rfl) (by first | omega | (have q := ids8 (by assumption) (by omega : i < _); omega)) (by first | omega | (have q := ids8 (by assumption) (by omega : i < _); omega))) ?_
  refine OK.seg 2 (by kernel_rfl) (OK.nil ?_)
  refine X.seq (X.region (OK.seg 2 (by kernel_rfl) ?_))
  refine OK.rdP [.agg (cS s), I (((s.ls 8).getD i 0))] [.agg (cS s), I (((s.ls 8).getD i 0))] (cre s (((s.ls 8).getD i 0))) rfl (by kernel_rfl) rfl (by kernel_rfl) (by kernel_rfl) (by kernel_rfl) (by kernel_rfl) (by kernel_rfl) (rIs_w _ _ _ _ hyp0 ((right_of (by assumption)).2.1) (by omega)) (fun h10 => ?_) (fun h10 => ?_)
  rotate_left
  ·
   refine OK.seg 10 (by kernel_rfl) (OK.nil ?_)
   refine X.condF (by kernel_rfl) ?_
   refine X.skip (X.region ?_)
   refine OK.val (I ((i + 1 : Nat) : Int)) (by kernel_rfl) (fun _ => add_op (k := .i64) (a := ((i : Nat) : Int)) (b := 1) rfl (by kernel_rfl) (by kernel_rfl) (by rw [wrap64] <;> first | omega | (have q := ids8 (by assumption) (by omega : i < _); omega))) ?_
   refine OK.seg 1 (by kernel_rfl) (OK.nil ?_)
   have hsk := fun (q : ¬ (bePr s p) ((s.ls 8).getD i 0)) => fskip h3 (by omega) q
   have had := fun (q : (bePr s p) ((s.ls 8).getD i 0)) => fadd h3 (by omega) q
   exact ⟨([.agg (cS s), I p, .ptr 0 0, undefA, .list [] true, .sl 1 yg 0 ys.length, undefA, .opq, .list [] true, .ptr 0 1, .ptr 0 9, .list ((s.ls 8).map I) false, I ((((s.ls 8).map I).length : Nat) : Int), I ((i + 1 : Nat) : Int)] ++ List.replicate 21 .opq ++ [undefA] : List AV), [.box (cS s) false, .rows ((ys).map I) yg 1 false], [0, 1, 0, 0], [[], []], by kernel_rfl, by kernel_rfl, by simp only [bS], by simp only [bS], by kernel_rfl, m5 - 1, by omega, i + 1, by omega, by omega, .inr ⟨ys, yg, ys.length, rfl, hsk (by intro q; first | exact absurd q.1 (by assumption) | exact absurd q.2 (by assumption)), by kernel_rfl, by kernel_rfl⟩⟩
  refine OK.seg 4 (by kernel_rfl) ?_
  refine OK.val (.ro (cO ((s.objs).getD (((s.ls 8).getD i 0)).toNat o0)) 0) (by kernel_rfl) (fun _ => idx_map (sz := 18) (g := E) (d := o0) (xs := s.objs) (ex := false) (k := .i64) (n := (((s.ls 8).getD i 0))) rfl Tryz.underlying22 (by kernel_rfl) (by kernel_rfl) (by kernel_rfl) (by kernel_rfl) (by first | omega | (have q := ids8 (by assumption) (by omega : i < _); omega)) (by first | omega | (have q := ids8 (by assumption) (by omega : i < _); omega))) ?_
  refine OK.seg 3 (by kernel_rfl) ?_
  refine OK.dec ((((s.objs).getD (((s.ls 8).getD i 0)).toNat o0) 2) = p) (by kernel_rfl) (by kernel_rfl) (fun h11 => ?_) (fun h11 => ?_)
  rotate_left
  ·
   refine OK.seg 1 (by kernel_rfl) (OK.nil ?_)
   refine X.condF (by kernel_rfl) ?_
   refine X.skip (X.region ?_)
   refine OK.val (I ((i + 1 : Nat) : Int)) (by kernel_rfl) (fun _ => add_op (k := .i64) (a := ((i : Nat) : Int)) (b := 1) rfl (by kernel_rfl) (by kernel_rfl) (by rw [wrap64] <;> first | omega | (have q := ids8 (by assumption) (by omega : i < _); omega))) ?_
   refine OK.seg 1 (by kernel_rfl) (OK.nil ?_)
   have hsk := fun (q : ¬ (bePr s p) ((s.ls 8).getD i 0)) => fskip h3 (by omega) q
   have had := fun (q : (bePr s p) ((s.ls 8).getD i 0)) => fadd h3 (by omega) q
   exact ⟨([.agg (cS s), I p, .ptr 0 0, undefA, .list [] true, .sl 1 yg 0 ys.length, undefA, .opq, .list [] true, .ptr 0 1, .ptr 0 9, .list ((s.ls 8).map I) false, I ((((s.ls 8).map I).length : Nat) : Int), I ((i + 1 : Nat) : Int)] ++ List.replicate 21 .opq ++ [undefA] : List AV), [.box (cS s) false, .rows ((ys).map I) yg 1 false], [0, 1, 0, 0], [[], []], by kernel_rfl, by kernel_rfl, by simp only [bS], by simp only [bS], by kernel_rfl, m5 - 1, by omega, i + 1, by omega, by omega, .inr ⟨ys, yg, ys.length, rfl, hsk (by intro q; first | exact absurd q.1 (by assumption) | exact absurd q.2 (by assumption)), by kernel_rfl, by kernel_rfl⟩⟩
  refine OK.seg 1 (by kernel_rfl) (OK.nil ?_)
  refine X.condT (by kernel_rfl) ?_
  refine X.region (OK.seg 3 (by kernel_rfl) ?_)
  refine OK.opS (.sl 1 (yg + 1) 0 (ys.length + 1)) [.box (cS s) false, .rows (((ys) ++ [(((s.ls 8).getD i 0))]).map I) (yg + 1) 1 false] (by kernel_rfl) (ap_sl (b := 1) (n := yg) (ex := true) (g := I) (ys := ys) (v := (((s.ls 8).getD i 0))) rfl rfl rfl rfl Tryz.underlying23 Tryz.underlying23 (by kernel_rfl) (by_ := 8) (by kernel_rfl) (z := I 0) (by kernel_rfl) rfl (by omega) (fun _ => rfl) (fun _ => rfl) (by kernel_rfl) (by kernel_rfl) (Nat.zero_le _) (ap_bd (by omega)) (by kernel_rfl)) ?_
  refine OK.seg 1 (by kernel_rfl) (OK.nil ?_)
  refine X.region ?_
  refine OK.val (I ((i + 1 : Nat) : Int)) (by kernel_rfl) (fun _ => add_op (k := .i64) (a := ((i : Nat) : Int)) (b := 1) rfl (by kernel_rfl) (by kernel_rfl) (by rw [wrap64] <;> first | omega | (have q := ids8 (by assumption) (by omega : i < _); omega))) ?_
  refine OK.seg 1 (by kernel_rfl) (OK.nil ?_)
  have hsk := fun (q : ¬ (bePr s p) ((s.ls 8).getD i 0)) => fskip h3 (by omega) q
  have had := fun (q : (bePr s p) ((s.ls 8).getD i 0)) => fadd h3 (by omega) q
  exact ⟨([.agg (cS s), I p, .ptr 0 0, undefA, .list [] true, .sl 1 (yg + 1) 0 (ys.length + 1), undefA, .opq, .list [] true, .ptr 0 1, .ptr 0 9, .list ((s.ls 8).map I) false, I ((((s.ls 8).map I).length : Nat) : Int), I ((i + 1 : Nat) : Int)] ++ List.replicate 21 .opq ++ [undefA] : List AV), [.box (cS s) false, .rows (((ys) ++ [(((s.ls 8).getD i 0))]).map I) (yg + 1) 1 false], [0, 1, 0, 0], [[], []], by kernel_rfl, by kernel_rfl, by simp only [bS], by simp only [bS], by kernel_rfl, m5 - 1, by omega, i + 1, by omega, by omega, .inr ⟨ys ++ [(s.ls 8).getD i 0], yg + 1, ys.length + 1, by simp, had (by exact ⟨by assumption, by assumption⟩), by kernel_rfl, by kernel_rfl⟩⟩

set_option maxHeartbeats 1000000 in
theorem Group_0 : ∀ k (s : St) (src ctl x2 x3 : Int) σ, wf s → 1000000 ≤ k → readW (callW Tryz.prog (exec Tryz.prog cfg k)) 13 [.agg (cS s), I 0, .agg [I src, I ctl, I x2, I x3]] σ = some (.list ((grL s 0 ctl src).map I) false, σ) := by
 intro k s src ctl x2 x3 σ hyp0 hk
 obtain ⟨k, rfl⟩ : ∃ k', k = k' + 60 := ⟨k - 60, by omega⟩
 have hw1 := hyp0.1
 have hw2 := hyp0.2
 have hlm : ((s.objs).map E).length = s.objs.length := List.length_map _
 have hll : ∀ z, ((s.ls z).map I).length = (s.ls z).length := fun z => List.length_map _
 have hl8 := hll 8; have hw8 := hw2 8
 refine reader_of Tryz.func13 rfl (by simp only [AV.frees, AV.free, fr_I, fr_E, fr_cO, fr_cL, fr_cS, Bool.and_self]) ?_
 refine X.seq (X.region (OK.seg 3 (by kernel_rfl) (OK.nil ?_)))
 refine X.seq (X.seq (X.region (OK.seg 1 (by kernel_rfl) ?_)))
 refine OK.rd [.agg (cS s)] [.agg (cS s)] (errS s) rfl (by kernel_rfl) rfl (by kernel_rfl) (by kernel_rfl) (by kernel_rfl) (by kernel_rfl) (by kernel_rfl) (Check_w _ _ _ hyp0 (by omega)) ?_
 rcases errS_cases s with ⟨hRh1, heh1⟩ | ⟨hRh1, vh1, heh1⟩ <;> rw [heh1]
 rotate_left
 ·
  refine OK.seg 9 (by kernel_rfl) (OK.nil ?_)
  refine X.condT (by kernel_rfl) ?_
  refine X.seq (X.region (OK.seg 1 (by kernel_rfl) (OK.nil ?_)))
  refine X.ret ?_
  exact ⟨rfl, giv (r := .list [] false) (by kernel_rfl) (by first | exact gr_wrong (by assumption) | exact gr_other (by omega) | exact gr_right (ys := []) (by assumption) (flt_all (by assumption) (by omega)))⟩
 refine OK.seg 9 (by kernel_rfl) (OK.nil ?_)
 refine X.condF (by kernel_rfl) ?_
 refine X.skip (X.seq (X.region (OK.seg 1 (by kernel_rfl) (OK.nil ?_))))
 refine X.seq (X.seq (X.region (OK.seg 5 (by kernel_rfl) (OK.nil ?_))))
 refine X.block ?_
 refine X.rounds3 (K := 600000) [9, 10, 11, 28, 29, 30, 31, 32, 33, 34, 35, 36, 37, 38, 39, 40, 41, 42, 43, 44, 45, 46, 47, 48, 49, 50, 51, 52, 53, 54, 55, 56, 57, 58, 59, 60, 61, 62, 63] (by kernel_rfl) rfl (fun m fr σ => ∃ i : Nat, m = (s.ls 8).length - i ∧ i ≤ (s.ls 8).length ∧ ((flt (grPr s 0 ctl src) ((s.ls 8).take i) = [] ∧ clearA' [9, 10, 11, 28, 29, 30, 31, 32, 33, 34, 35, 36, 37, 38, 39, 40, 41, 42, 43, 44, 45, 46, 47, 48, 49, 50, 51, 52, 53, 54, 55, 56, 57, 58, 59, 60, 61, 62, 63] fr = ([.agg (cS s), I 0, .agg [I src, I ctl, I x2, I x3], .ptr 0 0, undefA, .ptr 1 0, .list [] true, .list [] true, undefA, .opq, .opq, .opq, .agg (cS s), .nilIface, .bool false, .bool false, I 0, .bool false, .bool false, .bool false, I 0, .bool false, .bool false, .ptr 0 1, .ptr 0 9, .list ((s.ls 8).map I) false, I ((((s.ls 8).map I).length : Nat) : Int), I ((i : Nat) : Int)] ++ List.replicate 36 .opq ++ [undefA] : List AV) ∧ σ = [.box (cS s) false, .box [I src, I ctl, I x2, I x3] false]) ∨ ∃ (ys : List Int) (yg yn : Nat), yn = ys.length ∧ flt (grPr s 0 ctl src) ((s.ls 8).take i) = ys ∧ clearA' [9, 10, 11, 28, 29, 30, 31, 32, 33, 34, 35, 36, 37, 38, 39, 40, 41, 42, 43, 44, 45, 46, 47, 48, 49, 50, 51, 52, 53, 54, 55, 56, 57, 58, 59, 60, 61, 62, 63] fr = ([.agg (cS s), I 0, .agg [I src, I ctl, I x2, I x3], .ptr 0 0, undefA, .ptr 1 0, .list [] true, .sl 3 yg 0 yn, undefA, .opq, .opq, .opq, .agg (cS s), .nilIface, .bool false, .bool false, I 0, .bool false, .bool false, .bool false, I 0, .bool false, .bool false, .ptr 0 1, .ptr 0 9, .list ((s.ls 8).map I) false, I ((((s.ls 8).map I).length : Nat) : Int), I ((i : Nat) : Int)] ++ List.replicate 36 .opq ++ [undefA] : List AV) ∧ σ = [.box (cS s) false, .box [I src, I ctl, I x2, I x3] false, .box [] true, .rows ((ys).map I) yg 1 false])) ?_ (m := (s.ls 8).length) ⟨0, rfl, Nat.zero_le _, .inl ⟨rfl, by kernel_rfl, by kernel_rfl⟩⟩ ?_
 rotate_left
 · omega
 rintro m7 fr σ ⟨i, h3, h4, ⟨h5, h6, rfl⟩ | ⟨ys, yg, yn, rfl, h5, h6, rfl⟩⟩ k h7
 ·
  rw [h6]; clear h6
  have hyl := flt_len h5
  obtain ⟨k, rfl⟩ : ∃ k', k = k' + 60 := ⟨k - 60, by omega⟩
  refine X.seq (X.region ?_)
  refine OK.dec (((i : Nat) : Int) < ((((s.ls 8).map I).length : Nat) : Int)) (by kernel_rfl) (by kernel_rfl) (fun h8 => ?_) (fun h8 => ?_)
  rotate_left
  ·
   refine OK.nil ?_
   refine X.seq (X.condF (by kernel_rfl) ?_)
   refine X.exit ?_
   show X _ _ _ _ _ _ _ _ _
   refine X.seq (X.region (OK.seg 2 (by kernel_rfl) (OK.nil ?_)))
   refine X.ret ?_
   exact ⟨rfl, giv (r := .list [] false) (by kernel_rfl) (by first | exact gr_wrong (by assumption) | exact gr_other (by omega) | exact gr_right (ys := []) (by assumption) (flt_all (by assumption) (by omega)))⟩
  refine OK.nil ?_
  refine X.seq (X.condT (by kernel_rfl) ?_)
  refine X.skip (X.seq (X.block (X.seq (X.region ?_))))
  refine OK.val (.ro [I (((s.ls 8).getD i 0))] 0) (by kernel_rfl) (fun _ => idx_map (sz := 1) (g := I) (d := 0) (xs := s.ls 8) (ex := false) (k := .i64) (n := ((i : Nat) : Int)) rfl Tryz.underlying23 (by kernel_rfl) (by kernel_rfl) (by kernel_rfl) (by kernel_rfl) (by first | omega | (have q := ids8 (by assumption) (by omega : i < _); omega)) (by first | omega | (have q := ids8 (by assumption) (by omega : i < _); omega))) ?_
  refine OK.seg 2 (by kernel_rfl) (OK.nil ?_)
  refine X.seq (X.draw (by kernel_rfl) (by kernel_rfl) (by kernel_rfl) ?_)
  refine DK.seg 3 (by kernel_rfl) ?_
  refine DK.val (.ro (cO ((s.objs).getD (((s.ls 8).getD i 0)).toNat o0)) 0) (by kernel_rfl) (fun _ => idx_map (sz := 18) (g := E) (d := o0) (xs := s.objs) (ex := false) (k := .i64) (n := (((s.ls 8).getD i 0))) rfl Tryz.underlying22 (by kernel_rfl) (by kernel_rfl) (by kernel_rfl) (by kernel_rfl) (by first | omega | (have q := ids8 (by assumption) (by omega : i < _); omega)) (by first | omega | (have q := ids8 (by assumption) (by omega : i < _); omega))) ?_
  refine DK.seg 4 (by kernel_rfl) ?_
  refine DK.dec ((((s.objs).getD (((s.ls 8).getD i 0)).toNat o0) 2) = ctl) (by kernel_rfl) (by kernel_rfl) (fun h9 => ?_) (fun h9 => ?_)
  rotate_left
  ·
   refine DK.seg 1 (by kernel_rfl) (DK.nil ?_)
   refine X.seq (X.region (OK.segE 13 ([.agg (cS s), I 0, .agg [I src, I ctl, I x2, I x3], .ptr 0 0, undefA, .ptr 1 0, .list [] true, .list [] true, undefA, I (((s.ls 8).getD i 0)), .bool false, .ptr 2 0, .agg (cS s), .nilIface, .bool false, .bool false, I 0, .bool false, .bool false, .bool false, I 0, .bool false, .bool false, .ptr 0 1, .ptr 0 9, .list ((s.ls 8).map I) false, I ((((s.ls 8).map I).length : Nat) : Int), I ((i : Nat) : Int), .bool true, .ro [I (((s.ls 8).getD i 0))] 0, I (((s.ls 8).getD i 0)), .ptr 0 0, .list ((s.objs).map E) false, I (((s.ls 8).getD i 0)), .ro (cO ((s.objs).getD (((s.ls 8).getD i 0)).toNat o0)) 0, .ro (cO ((s.objs).getD (((s.ls 8).getD i 0)).toNat o0)) 2, I (((s.objs).getD (((s.ls 8).getD i 0)).toNat o0) 2), .ptr 1 1, I ctl, .bool false, .bool false, .bool false, .bool true, .bool false, .bool false] ++ List.replicate 4 undefA ++ [.bool false, .agg [.bool true, .bool false, .bool true, .bool false]] ++ List.replicate 13 .opq ++ [undefA] : List AV) [.box (cS s) false, .box [I src, I ctl, I x2, I x3] false, .box [.bool true, .bool false, .bool true, .bool false] false] (by kernel_rfl) (OK.nil ?_)))
   refine X.seq (X.region (OK.seg 6 (by kernel_rfl) ?_))
   refine OK.rdP [.agg (cS s), I (((s.ls 8).getD i 0))] [.agg (cS s), I (((s.ls 8).getD i 0))] (rightS s ∧ cre s (((s.ls 8).getD i 0))) rfl (by kernel_rfl) rfl (by kernel_rfl) (by kernel_rfl) (by kernel_rfl) (by kernel_rfl) (by kernel_rfl) (Is_w _ _ _ _ hyp0 (by omega)) (fun h13 => ?_) (fun h13 => ?_)
   rotate_left
   ·
    refine OK.seg 1 (by kernel_rfl) (OK.nil ?_)
    refine X.condF (by kernel_rfl) ?_
    refine X.skip (X.region ?_)
    refine OK.val (I ((i + 1 : Nat) : Int)) (by kernel_rfl) (fun _ => add_op (k := .i64) (a := ((i : Nat) : Int)) (b := 1) rfl (by kernel_rfl) (by kernel_rfl) (by rw [wrap64] <;> first | omega | (have q := ids8 (by assumption) (by omega : i < _); omega))) ?_
    refine OK.seg 1 (by kernel_rfl) (OK.nil ?_)
    have hsk := fun (q : ¬ (grPr s 0 ctl src) ((s.ls 8).getD i 0)) => fskip h5 (by omega) q
    have had := fun (q : (grPr s 0 ctl src) ((s.ls 8).getD i 0)) => fadd h5 (by omega) q
    exact ⟨([.agg (cS s), I 0, .agg [I src, I ctl, I x2, I x3], .ptr 0 0, undefA, .ptr 1 0, .list [] true, .list [] true, undefA, .opq, .opq, .opq, .agg (cS s), .nilIface, .bool false, .bool false, I 0, .bool false, .bool false, .bool false, I 0, .bool false, .bool false, .ptr 0 1, .ptr 0 9, .list ((s.ls 8).map I) false, I ((((s.ls 8).map I).length : Nat) : Int), I ((i + 1 : Nat) : Int)] ++ List.replicate 36 .opq ++ [undefA] : List AV), [.box (cS s) false, .box [I src, I ctl, I x2, I x3] false, .box [.bool true, .bool false, .bool true, .bool false] false], [0, 1, 0, 0], [[], [], []], by kernel_rfl, by kernel_rfl, by simp only [bS], by simp only [bS], by kernel_rfl, m7 - 1, by omega, i + 1, by omega, by omega, .inl ⟨hsk (by intro q; first | (exfalso; omega) | exact absurd q.1 (by assumption) | exact (show ¬ (rightS s ∧ cre s ((s.ls 8).getD i 0)) by assumption) ⟨by assumption, q.1⟩ | (have q2 := q.2; omega)), by kernel_rfl, by kernel_rfl⟩⟩
   refine OK.seg 1 (by kernel_rfl) (OK.nil ?_)
   refine X.condT (by kernel_rfl) ?_
   refine X.region (OK.seg 5 (by kernel_rfl) (OK.nil ?_))
   refine X.region ?_
   refine OK.val (I ((i + 1 : Nat) : Int)) (by kernel_rfl) (fun _ => add_op (k := .i64) (a := ((i : Nat) : Int)) (b := 1) rfl (by kernel_rfl) (by kernel_rfl) (by rw [wrap64] <;> first | omega | (have q := ids8 (by assumption) (by omega : i < _); omega))) ?_
   refine OK.seg 1 (by kernel_rfl) (OK.nil ?_)
   have hsk := fun (q : ¬ (grPr s 0 ctl src) ((s.ls 8).getD i 0)) => fskip h5 (by omega) q
   have had := fun (q : (grPr s 0 ctl src) ((s.ls 8).getD i 0)) => fadd h5 (by omega) q
   exact ⟨([.agg (cS s), I 0, .agg [I src, I ctl, I x2, I x3], .ptr 0 0, undefA, .ptr 1 0, .list [] true, .sl 3 0 0 1, undefA, .opq, .opq, .opq, .agg (cS s), .nilIface, .bool false, .bool false, I 0, .bool false, .bool false, .bool false, I 0, .bool false, .bool false, .ptr 0 1, .ptr 0 9, .list ((s.ls 8).map I) false, I ((((s.ls 8).map I).length : Nat) : Int), I ((i + 1 : Nat) : Int)] ++ List.replicate 36 .opq ++ [undefA] : List AV), [.box (cS s) false, .box [I src, I ctl, I x2, I x3] false, .box [.bool true, .bool false, .bool true, .bool false] false, .rows (([(((s.ls 8).getD i 0))]).map I) 0 1 false], [0, 1, 3, 0, 0], [[], [], [], []], by kernel_rfl, by kernel_rfl, by simp only [bS], by simp only [bS], by kernel_rfl, m7 - 1, by omega, i + 1, by omega, by omega, .inr ⟨[(s.ls 8).getD i 0], 0, 1, rfl, had (by first | (exfalso; omega) | exact ⟨by first | assumption | exact (by assumption : _ ∧ _).2, by omega⟩), by kernel_rfl, by kernel_rfl⟩⟩
  refine DK.seg 1 (by kernel_rfl) (DK.nil ?_)
  refine X.seq (X.region (OK.seg 8 (by kernel_rfl) ?_))
  refine OK.ndec ((((s.ls 8).getD i 0)) = src) (by kernel_rfl) (by kernel_rfl) (fun h10 => ?_) (fun h10 => ?_)
  ·
   refine OK.seg 4 (by kernel_rfl) (OK.nil ?_)
   refine X.seq (X.region (OK.seg 6 (by kernel_rfl) ?_))
   refine OK.rdP [.agg (cS s), I (((s.ls 8).getD i 0))] [.agg (cS s), I (((s.ls 8).getD i 0))] (rightS s ∧ cre s (((s.ls 8).getD i 0))) rfl (by kernel_rfl) rfl (by kernel_rfl) (by kernel_rfl) (by kernel_rfl) (by kernel_rfl) (by kernel_rfl) (Is_w _ _ _ _ hyp0 (by omega)) (fun h11 => ?_) (fun h11 => ?_)
   rotate_left
   ·
    refine OK.seg 1 (by kernel_rfl) (OK.nil ?_)
    refine X.condF (by kernel_rfl) ?_
    refine X.skip (X.region ?_)
    refine OK.val (I ((i + 1 : Nat) : Int)) (by kernel_rfl) (fun _ => add_op (k := .i64) (a := ((i : Nat) : Int)) (b := 1) rfl (by kernel_rfl) (by kernel_rfl) (by rw [wrap64] <;> first | omega | (have q := ids8 (by assumption) (by omega : i < _); omega))) ?_
    refine OK.seg 1 (by kernel_rfl) (OK.nil ?_)
    have hsk := fun (q : ¬ (grPr s 0 ctl src) ((s.ls 8).getD i 0)) => fskip h5 (by omega) q
    have had := fun (q : (grPr s 0 ctl src) ((s.ls 8).getD i 0)) => fadd h5 (by omega) q
    exact ⟨([.agg (cS s), I 0, .agg [I src, I ctl, I x2, I x3], .ptr 0 0, undefA, .ptr 1 0, .list [] true, .list [] true, undefA, .opq, .opq, .opq, .agg (cS s), .nilIface, .bool false, .bool false, I 0, .bool false, .bool false, .bool false, I 0, .bool false, .bool false, .ptr 0 1, .ptr 0 9, .list ((s.ls 8).map I) false, I ((((s.ls 8).map I).length : Nat) : Int), I ((i + 1 : Nat) : Int)] ++ List.replicate 36 .opq ++ [undefA] : List AV), [.box (cS s) false, .box [I src, I ctl, I x2, I x3] false, .box [.bool true, .bool true, .bool false, .bool true] false], [0, 1, 0, 0], [[], [], []], by kernel_rfl, by kernel_rfl, by simp only [bS], by simp only [bS], by kernel_rfl, m7 - 1, by omega, i + 1, by omega, by omega, .inl ⟨hsk (by intro q; first | (exfalso; omega) | exact absurd q.1 (by assumption) | exact (show ¬ (rightS s ∧ cre s ((s.ls 8).getD i 0)) by assumption) ⟨by assumption, q.1⟩ | (have q2 := q.2; omega)), by kernel_rfl, by kernel_rfl⟩⟩
   refine OK.seg 1 (by kernel_rfl) (OK.nil ?_)
   refine X.condT (by kernel_rfl) ?_
   refine X.region (OK.seg 5 (by kernel_rfl) (OK.nil ?_))
   refine X.region ?_
   refine OK.val (I ((i + 1 : Nat) : Int)) (by kernel_rfl) (fun _ => add_op (k := .i64) (a := ((i : Nat) : Int)) (b := 1) rfl (by kernel_rfl) (by kernel_rfl) (by rw [wrap64] <;> first | omega | (have q := ids8 (by assumption) (by omega : i < _); omega))) ?_
   refine OK.seg 1 (by kernel_rfl) (OK.nil ?_)
   have hsk := fun (q : ¬ (grPr s 0 ctl src) ((s.ls 8).getD i 0)) => fskip h5 (by omega) q
   have had := fun (q : (grPr s 0 ctl src) ((s.ls 8).getD i 0)) => fadd h5 (by omega) q
   exact ⟨([.agg (cS s), I 0, .agg [I src, I ctl, I x2, I x3], .ptr 0 0, undefA, .ptr 1 0, .list [] true, .sl 3 0 0 1, undefA, .opq, .opq, .opq, .agg (cS s), .nilIface, .bool false, .bool false, I 0, .bool false, .bool false, .bool false, I 0, .bool false, .bool false, .ptr 0 1, .ptr 0 9, .list ((s.ls 8).map I) false, I ((((s.ls 8).map I).length : Nat) : Int), I ((i + 1 : Nat) : Int)] ++ List.replicate 36 .opq ++ [undefA] : List AV), [.box (cS s) false, .box [I src, I ctl, I x2, I x3] false, .box [.bool true, .bool true, .bool false, .bool true] false, .rows (([(((s.ls 8).getD i 0))]).map I) 0 1 false], [0, 1, 3, 0, 0], [[], [], [], []], by kernel_rfl, by kernel_rfl, by simp only [bS], by simp only [bS], by kernel_rfl, m7 - 1, by omega, i + 1, by omega, by omega, .inr ⟨[(s.ls 8).getD i 0], 0, 1, rfl, had (by first | (exfalso; omega) | exact ⟨by first | assumption | exact (by assumption : _ ∧ _).2, by omega⟩), by kernel_rfl, by kernel_rfl⟩⟩
  refine OK.seg 4 (by kernel_rfl) (OK.nil ?_)
  refine X.seq (X.region (OK.seg 6 (by kernel_rfl) ?_))
  refine OK.rdP [.agg (cS s), I (((s.ls 8).getD i 0))] [.agg (cS s), I (((s.ls 8).getD i 0))] (rightS s ∧ cre s (((s.ls 8).getD i 0))) rfl (by kernel_rfl) rfl (by kernel_rfl) (by kernel_rfl) (by kernel_rfl) (by kernel_rfl) (by kernel_rfl) (Is_w _ _ _ _ hyp0 (by omega)) (fun h12 => ?_) (fun h12 => ?_)
  rotate_left
  ·
   refine OK.seg 1 (by kernel_rfl) (OK.nil ?_)
   refine X.condF (by kernel_rfl) ?_
   refine X.skip (X.region ?_)
   refine OK.val (I ((i + 1 : Nat) : Int)) (by kernel_rfl) (fun _ => add_op (k := .i64) (a := ((i : Nat) : Int)) (b := 1) rfl (by kernel_rfl) (by kernel_rfl) (by rw [wrap64] <;> first | omega | (have q := ids8 (by assumption) (by omega : i < _); omega))) ?_
   refine OK.seg 1 (by kernel_rfl) (OK.nil ?_)
   have hsk := fun (q : ¬ (grPr s 0 ctl src) ((s.ls 8).getD i 0)) => fskip h5 (by omega) q
   have had := fun (q : (grPr s 0 ctl src) ((s.ls 8).getD i 0)) => fadd h5 (by omega) q
   exact ⟨([.agg (cS s), I 0, .agg [I src, I ctl, I x2, I x3], .ptr 0 0, undefA, .ptr 1 0, .list [] true, .list [] true, undefA, .opq, .opq, .opq, .agg (cS s), .nilIface, .bool false, .bool false, I 0, .bool false, .bool false, .bool false, I 0, .bool false, .bool false, .ptr 0 1, .ptr 0 9, .list ((s.ls 8).map I) false, I ((((s.ls 8).map I).length : Nat) : Int), I ((i + 1 : Nat) : Int)] ++ List.replicate 36 .opq ++ [undefA] : List AV), [.box (cS s) false, .box [I src, I ctl, I x2, I x3] false, .box [.bool true, .bool true, .bool false, .bool false] false], [0, 1, 0, 0], [[], [], []], by kernel_rfl, by kernel_rfl, by simp only [bS], by simp only [bS], by kernel_rfl, m7 - 1, by omega, i + 1, by omega, by omega, .inl ⟨hsk (by intro q; first | (exfalso; omega) | exact absurd q.1 (by assumption) | exact (show ¬ (rightS s ∧ cre s ((s.ls 8).getD i 0)) by assumption) ⟨by assumption, q.1⟩ | (have q2 := q.2; omega)), by kernel_rfl, by kernel_rfl⟩⟩
  refine OK.seg 1 (by kernel_rfl) (OK.nil ?_)
  refine X.condT (by kernel_rfl) ?_
  refine X.region (OK.seg 5 (by kernel_rfl) (OK.nil ?_))
  refine X.region ?_
  refine OK.val (I ((i + 1 : Nat) : Int)) (by kernel_rfl) (fun _ => add_op (k := .i64) (a := ((i : Nat) : Int)) (b := 1) rfl (by kernel_rfl) (by kernel_rfl) (by rw [wrap64] <;> first | omega | (have q := ids8 (by assumption) (by omega : i < _); omega))) ?_
  refine OK.seg 1 (by kernel_rfl) (OK.nil ?_)
  have hsk := fun (q : ¬ (grPr s 0 ctl src) ((s.ls 8).getD i 0)) => fskip h5 (by omega) q
  have had := fun (q : (grPr s 0 ctl src) ((s.ls 8).getD i 0)) => fadd h5 (by omega) q
  exact ⟨([.agg (cS s), I 0, .agg [I src, I ctl, I x2, I x3], .ptr 0 0, undefA, .ptr 1 0, .list [] true, .sl 3 0 0 1, undefA, .opq, .opq, .opq, .agg (cS s), .nilIface, .bool false, .bool false, I 0, .bool false, .bool false, .bool false, I 0, .bool false, .bool false, .ptr 0 1, .ptr 0 9, .list ((s.ls 8).map I) false, I ((((s.ls 8).map I).length : Nat) : Int), I ((i + 1 : Nat) : Int)] ++ List.replicate 36 .opq ++ [undefA] : List AV), [.box (cS s) false, .box [I src, I ctl, I x2, I x3] false, .box [.bool true, .bool true, .bool false, .bool false] false, .rows (([(((s.ls 8).getD i 0))]).map I) 0 1 false], [0, 1, 3, 0, 0], [[], [], [], []], by kernel_rfl, by kernel_rfl, by simp only [bS], by simp only [bS], by kernel_rfl, m7 - 1, by omega, i + 1, by omega, by omega, .inr ⟨[(s.ls 8).getD i 0], 0, 1, rfl, had (by first | (exfalso; omega) | exact ⟨by first | assumption | exact (by assumption : _ ∧ _).2, by omega⟩), by kernel_rfl, by kernel_rfl⟩⟩
 ·
  rw [h6]; clear h6
  have hyl := flt_len h5
  obtain ⟨k, rfl⟩ : ∃ k', k = k' + 60 := ⟨k - 60, by omega⟩
  refine X.seq (X.region ?_)
  refine OK.dec (((i : Nat) : Int) < ((((s.ls 8).map I).length : Nat) : Int)) (by kernel_rfl) (by kernel_rfl) (fun h14 => ?_) (fun h14 => ?_)
  rotate_left
  ·
   refine OK.nil ?_
   refine X.seq (X.condF (by kernel_rfl) ?_)
   refine X.exit ?_
   show X _ _ _ _ _ _ _ _ _
   refine X.seq (X.region (OK.seg 2 (by kernel_rfl) (OK.nil ?_)))
   refine X.ret ?_
   exact ⟨rfl, giv (gives_sl (g := I) (fun _ _ => rfl) (fun _ => rfl) (b := 3) (n := yg) (ys := ys) (sz := 1) (by kernel_rfl) (by kernel_rfl)) (by first | exact gr_wrong (by assumption) | exact gr_other (by omega) | exact gr_right (ys := ys) (by assumption) (flt_all (by assumption) (by omega)))⟩
  refine OK.nil ?_
  refine X.seq (X.condT (by kernel_rfl) ?_)
  refine X.skip (X.seq (X.block (X.seq (X.region ?_))))
  refine OK.val (.ro [I (((s.ls 8).getD i 0))] 0) (by kernel_rfl) (fun _ => idx_map (sz := 1) (g := I) (d := 0) (xs := s.ls 8) (ex := false) (k := .i64) (n := ((i : Nat) : Int)) rfl Tryz.underlying23 (by kernel_rfl) (by kernel_rfl) (by kernel_rfl) (by kernel_rfl) (by first | omega | (have q := ids8 (by assumption) (by omega : i < _); omega)) (by first | omega | (have q := ids8 (by assumption) (by omega : i < _); omega))) ?_
  refine OK.seg 2 (by kernel_rfl) (OK.nil ?_)
  refine X.seq (X.draw (by kernel_rfl) (by kernel_rfl) (by kernel_rfl) ?_)
  refine DK.seg 3 (by kernel_rfl) ?_
  refine DK.val (.ro (cO ((s.objs).getD (((s.ls 8).getD i 0)).toNat o0)) 0) (by kernel_rfl) (fun _ => idx_map (sz := 18) (g := E) (d := o0) (xs := s.objs) (ex := false) (k := .i64) (n := (((s.ls 8).getD i 0))) rfl Tryz.underlying22 (by kernel_rfl) (by kernel_rfl) (by kernel_rfl) (by kernel_rfl) (by first | omega | (have q := ids8 (by assumption) (by omega : i < _); omega)) (by first | omega | (have q := ids8 (by assumption) (by omega : i < _); omega))) ?_
  refine DK.seg 4 (by kernel_rfl) ?_
  refine DK.dec ((((s.objs).getD (((s.ls 8).getD i 0)).toNat o0) 2) = ctl) (by kernel_rfl) (by kernel_rfl) (fun h15 => ?_) (fun h15 => ?_)
  rotate_left
  ·
   refine DK.seg 1 (by kernel_rfl) (DK.nil ?_)
   refine X.seq (X.region (OK.segE 13 ([.agg (cS s), I 0, .agg [I src, I ctl, I x2, I x3], .ptr 0 0, undefA, .ptr 1 0, .list [] true, .sl 3 yg 0 ys.length, undefA, I (((s.ls 8).getD i 0)), .bool false, .ptr 4 0, .agg (cS s), .nilIface, .bool false, .bool false, I 0, .bool false, .bool false, .bool false, I 0, .bool false, .bool false, .ptr 0 1, .ptr 0 9, .list ((s.ls 8).map I) false, I ((((s.ls 8).map I).length : Nat) : Int), I ((i : Nat) : Int), .bool true, .ro [I (((s.ls 8).getD i 0))] 0, I (((s.ls 8).getD i 0)), .ptr 0 0, .list ((s.objs).map E) false, I (((s.ls 8).getD i 0)), .ro (cO ((s.objs).getD (((s.ls 8).getD i 0)).toNat o0)) 0, .ro (cO ((s.objs).getD (((s.ls 8).getD i 0)).toNat o0)) 2, I (((s.objs).getD (((s.ls 8).getD i 0)).toNat o0) 2), .ptr 1 1, I ctl, .bool false, .bool false, .bool false, .bool true, .bool false, .bool false] ++ List.replicate 4 undefA ++ [.bool false, .agg [.bool true, .bool false, .bool true, .bool false]] ++ List.replicate 13 .opq ++ [undefA] : List AV) [.box (cS s) false, .box [I src, I ctl, I x2, I x3] false, .box [] true, .rows ((ys).map I) yg 1 false, .box [.bool true, .bool false, .bool true, .bool false] false] (by kernel_rfl) (OK.nil ?_)))
   refine X.seq (X.region (OK.seg 6 (by kernel_rfl) ?_))
   refine OK.rdP [.agg (cS s), I (((s.ls 8).getD i 0))] [.agg (cS s), I (((s.ls 8).getD i 0))] (rightS s ∧ cre s (((s.ls 8).getD i 0))) rfl (by kernel_rfl) rfl (by kernel_rfl) (by kernel_rfl) (by kernel_rfl) (by kernel_rfl) (by kernel_rfl) (Is_w _ _ _ _ hyp0 (by omega)) (fun h19 => ?_) (fun h19 => ?_)
   rotate_left
   ·
    refine OK.seg 1 (by kernel_rfl) (OK.nil ?_)
    refine X.condF (by kernel_rfl) ?_
    refine X.skip (X.region ?_)
    refine OK.val (I ((i + 1 : Nat) : Int)) (by kernel_rfl) (fun _ => add_op (k := .i64) (a := ((i : Nat) : Int)) (b := 1) rfl (by kernel_rfl) (by kernel_rfl) (by rw [wrap64] <;> first | omega | (have q := ids8 (by assumption) (by omega : i < _); omega))) ?_
    refine OK.seg 1 (by kernel_rfl) (OK.nil ?_)
    have hsk := fun (q : ¬ (grPr s 0 ctl src) ((s.ls 8).getD i 0)) => fskip h5 (by omega) q
    have had := fun (q : (grPr s 0 ctl src) ((s.ls 8).getD i 0)) => fadd h5 (by omega) q
    exact ⟨([.agg (cS s), I 0, .agg [I src, I ctl, I x2, I x3], .ptr 0 0, undefA, .ptr 1 0, .list [] true, .sl 3 yg 0 ys.length, undefA, .opq, .opq, .opq, .agg (cS s), .nilIface, .bool false, .bool false, I 0, .bool false, .bool false, .bool false, I 0, .bool false, .bool false, .ptr 0 1, .ptr 0 9, .list ((s.ls 8).map I) false, I ((((s.ls 8).map I).length : Nat) : Int), I ((i + 1 : Nat) : Int)] ++ List.replicate 36 .opq ++ [undefA] : List AV), [.box (cS s) false, .box [I src, I ctl, I x2, I x3] false, .box [] true, .rows ((ys).map I) yg 1 false, .box [.bool true, .bool false, .bool true, .bool false] false], [0, 1, 3, 0, 0], [[], [], [], [], []], by kernel_rfl, by kernel_rfl, by simp only [bS], by simp only [bS], by kernel_rfl, m7 - 1, by omega, i + 1, by omega, by omega, .inr ⟨ys, yg, ys.length, rfl, hsk (by intro q; first | (exfalso; omega) | exact absurd q.1 (by assumption) | exact (show ¬ (rightS s ∧ cre s ((s.ls 8).getD i 0)) by assumption) ⟨by assumption, q.1⟩ | (have q2 := q.2; omega)), by kernel_rfl, by kernel_rfl⟩⟩
   refine OK.seg 1 (by kernel_rfl) (OK.nil ?_)
   refine X.condT (by kernel_rfl) ?_
   refine X.region (OK.seg 3 (by kernel_rfl) ?_)
   refine OK.opS (.sl 3 (yg + 1) 0 (ys.length + 1)) [.box (cS s) false, .box [I src, I ctl, I x2, I x3] false, .box [] true, .rows (((ys) ++ [(((s.ls 8).getD i 0))]).map I) (yg + 1) 1 false, .box [.bool true, .bool false, .bool true, .bool false] false] (by kernel_rfl) (ap_sl (b := 3) (n := yg) (ex := true) (g := I) (ys := ys) (v := (((s.ls 8).getD i 0))) rfl rfl rfl rfl Tryz.underlying23 Tryz.underlying23 (by kernel_rfl) (by_ := 8) (by kernel_rfl) (z := I 0) (by kernel_rfl) rfl (by omega) (fun _ => rfl) (fun _ => rfl) (by kernel_rfl) (by kernel_rfl) (Nat.zero_le _) (ap_bd (by omega)) (by kernel_rfl)) ?_
   refine OK.seg 1 (by kernel_rfl) (OK.nil ?_)
   refine X.region ?_
   refine OK.val (I ((i + 1 : Nat) : Int)) (by kernel_rfl) (fun _ => add_op (k := .i64) (a := ((i : Nat) : Int)) (b := 1) rfl (by kernel_rfl) (by kernel_rfl) (by rw [wrap64] <;> first | omega | (have q := ids8 (by assumption) (by omega : i < _); omega))) ?_
   refine OK.seg 1 (by kernel_rfl) (OK.nil ?_)
   have hsk := fun (q : ¬ (grPr s 0 ctl src) ((s.ls 8).getD i 0)) => fskip h5 (by omega) q
   have had := fun (q : (grPr s 0 ctl src) ((s.ls 8).getD i 0)) => fadd h5 (by omega) q
   exact ⟨([.agg (cS s), I 0, .agg [I src, I ctl, I x2, I x3], .ptr 0 0, undefA, .ptr 1 0, .list [] true, .sl 3 (yg + 1) 0 (ys.length + 1), undefA, .opq, .opq, .opq, .agg (cS s), .nilIface, .bool false, .bool false, I 0, .bool false, .bool false, .bool false, I 0, .bool false, .bool false, .ptr 0 1, .ptr 0 9, .list ((s.ls 8).map I) false, I ((((s.ls 8).map I).length : Nat) : Int), I ((i + 1 : Nat) : Int)] ++ List.replicate 36 .opq ++ [undefA] : List AV), [.box (cS s) false, .box [I src, I ctl, I x2, I x3] false, .box [] true, .rows (((ys) ++ [(((s.ls 8).getD i 0))]).map I) (yg + 1) 1 false, .box [.bool true, .bool false, .bool true, .bool false] false], [0, 1, 3, 0, 0], [[], [], [], [], []], by kernel_rfl, by kernel_rfl, by simp only [bS], by simp only [bS], by kernel_rfl, m7 - 1, by omega, i + 1, by omega, by omega, .inr ⟨ys ++ [(s.ls 8).getD i 0], yg + 1, ys.length + 1, by simp, had (by first | (exfalso; omega) | exact ⟨by first | assumption | exact (by assumption : _ ∧ _).2, by omega⟩), by kernel_rfl, by kernel_rfl⟩⟩
  refine DK.seg 1 (by kernel_rfl) (DK.nil ?_)
  refine X.seq (X.region (OK.seg 8 (by kernel_rfl) ?_))
  refine OK.ndec ((((s.ls 8).getD i 0)) = src) (by kernel_rfl) (by kernel_rfl) (fun h16 => ?_) (fun h16 => ?_)
  ·
   refine OK.seg 4 (by kernel_rfl) (OK.nil ?_)
   refine X.seq (X.region (OK.seg 6 (by kernel_rfl) ?_))
   refine OK.rdP [.agg (cS s), I (((s.ls 8).getD i 0))] [.agg (cS s), I (((s.ls 8).getD i 0))] (rightS s ∧ cre s (((s.ls 8).getD i 0))) rfl (by kernel_rfl) rfl (by kernel_rfl) (by kernel_rfl) (by kernel_rfl) (by kernel_rfl) (by kernel_rfl) (Is_w _ _ _ _ hyp0 (by omega)) (fun h17 => ?_) (fun h17 => ?_)
   rotate_left
   ·
    refine OK.seg 1 (by kernel_rfl) (OK.nil ?_)
    refine X.condF (by kernel_rfl) ?_
    refine X.skip (X.region ?_)
    refine OK.val (I ((i + 1 : Nat) : Int)) (by kernel_rfl) (fun _ => add_op (k := .i64) (a := ((i : Nat) : Int)) (b := 1) rfl (by kernel_rfl) (by kernel_rfl) (by rw [wrap64] <;> first | omega | (have q := ids8 (by assumption) (by omega : i < _); omega))) ?_
    refine OK.seg 1 (by kernel_rfl) (OK.nil ?_)
    have hsk := fun (q : ¬ (grPr s 0 ctl src) ((s.ls 8).getD i 0)) => fskip h5 (by omega) q
    have had := fun (q : (grPr s 0 ctl src) ((s.ls 8).getD i 0)) => fadd h5 (by omega) q
    exact ⟨([.agg (cS s), I 0, .agg [I src, I ctl, I x2, I x3], .ptr 0 0, undefA, .ptr 1 0, .list [] true, .sl 3 yg 0 ys.length, undefA, .opq, .opq, .opq, .agg (cS s), .nilIface, .bool false, .bool false, I 0, .bool false, .bool false, .bool false, I 0, .bool false, .bool false, .ptr 0 1, .ptr 0 9, .list ((s.ls 8).map I) false, I ((((s.ls 8).map I).length : Nat) : Int), I ((i + 1 : Nat) : Int)] ++ List.replicate 36 .opq ++ [undefA] : List AV), [.box (cS s) false, .box [I src, I ctl, I x2, I x3] false, .box [] true, .rows ((ys).map I) yg 1 false, .box [.bool true, .bool true, .bool false, .bool true] false], [0, 1, 3, 0, 0], [[], [], [], [], []], by kernel_rfl, by kernel_rfl, by simp only [bS], by simp only [bS], by kernel_rfl, m7 - 1, by omega, i + 1, by omega, by omega, .inr ⟨ys, yg, ys.length, rfl, hsk (by intro q; first | (exfalso; omega) | exact absurd q.1 (by assumption) | exact (show ¬ (rightS s ∧ cre s ((s.ls 8).getD i 0)) by assumption) ⟨by assumption, q.1⟩ | (have q2 := q.2; omega)), by kernel_rfl, by kernel_rfl⟩⟩
   refine OK.seg 1 (by kernel_rfl) (OK.nil ?_)
   refine X.condT (by kernel_rfl) ?_
   refine X.region (OK.seg 3 (by kernel_rfl) ?_)
   refine OK.opS (.sl 3 (yg + 1) 0 (ys.length + 1)) [.box (cS s) false, .box [I src, I ctl, I x2, I x3] false, .box [] true, .rows (((ys) ++ [(((s.ls 8).getD i 0))]).map I) (yg + 1) 1 false, .box [.bool true, .bool true, .bool false, .bool true] false] (by kernel_rfl) (ap_sl (b := 3) (n := yg) (ex := true) (g := I) (ys := ys) (v := (((s.ls 8).getD i 0))) rfl rfl rfl rfl Tryz.underlying23 Tryz.underlying23 (by kernel_rfl) (by_ := 8) (by kernel_rfl) (z := I 0) (by kernel_rfl) rfl (by omega) (fun _ => rfl) (fun _ => rfl) (by kernel_rfl) (by kernel_rfl) (Nat.zero_le _) (ap_bd (by omega)) (by kernel_rfl)) ?_
   refine OK.seg 1 (by kernel_rfl) (OK.nil ?_)
   refine X.region ?_
   refine OK.val (I ((i + 1 : Nat) : Int)) (by kernel_rfl) (fun _ => add_op (k := .i64) (a := ((i : Nat) : Int)) (b := 1) rfl (by kernel_rfl) (by kernel_rfl) (by rw [wrap64] <;> first | omega | (have q := ids8 (by assumption) (by omega : i < _); omega))) ?_
   refine OK.seg 1 (by kernel_rfl) (OK.nil ?_)
   have hsk := fun (q : ¬ (grPr s 0 ctl src) ((s.ls 8).getD i 0)) => fskip h5 (by omega) q
   have had := fun (q : (grPr s 0 ctl src) ((s.ls 8).getD i 0)) => fadd h5 (by omega) q
   exact ⟨([.agg (cS s), I 0, .agg [I src, I ctl, I x2, I x3], .ptr 0 0, undefA, .ptr 1 0, .list [] true, .sl 3 (yg + 1) 0 (ys.length + 1), undefA, .opq, .opq, .opq, .agg (cS s), .nilIface, .bool false, .bool false, I 0, .bool false, .bool false, .bool false, I 0, .bool false, .bool false, .ptr 0 1, .ptr 0 9, .list ((s.ls 8).map I) false, I ((((s.ls 8).map I).length : Nat) : Int), I ((i + 1 : Nat) : Int)] ++ List.replicate 36 .opq ++ [undefA] : List AV), [.box (cS s) false, .box [I src, I ctl, I x2, I x3] false, .box [] true, .rows (((ys) ++ [(((s.ls 8).getD i 0))]).map I) (yg + 1) 1 false, .box [.bool true, .bool true, .bool false, .bool true] false], [0, 1, 3, 0, 0], [[], [], [], [], []], by kernel_rfl, by kernel_rfl, by simp only [bS], by simp only [bS], by kernel_rfl, m7 - 1, by omega, i + 1, by omega, by omega, .inr ⟨ys ++ [(s.ls 8).getD i 0], yg + 1, ys.length + 1, by simp, had (by first | (exfalso; omega) | exact ⟨by first | assumption | exact (by assumption : _ ∧ _).2, by omega⟩), by kernel_rfl, by kernel_rfl⟩⟩
  refine OK.seg 4 (by kernel_rfl) (OK.nil ?_)
  refine X.seq (X.region (OK.seg 6 (by kernel_rfl) ?_))
  refine OK.rdP [.agg (cS s), I (((s.ls 8).getD i 0))] [.agg (cS s), I (((s.ls 8).getD i 0))] (rightS s ∧ cre s (((s.ls 8).getD i 0))) rfl (by kernel_rfl) rfl (by kernel_rfl) (by kernel_rfl) (by kernel_rfl) (by kernel_rfl) (by kernel_rfl) (Is_w _ _ _ _ hyp0 (by omega)) (fun h18 => ?_) (fun h18 => ?_)
  rotate_left
  ·
   refine OK.seg 1 (by kernel_rfl) (OK.nil ?_)
   refine X.condF (by kernel_rfl) ?_
   refine X.skip (X.region ?_)
   refine OK.val (I ((i + 1 : Nat) : Int)) (by kernel_rfl) (fun _ => add_op (k := .i64) (a := ((i : Nat) : Int)) (b := 1) rfl (by kernel_rfl) (by kernel_rfl) (by rw [wrap64] <;> first | omega | (have q := ids8 (by assumption) (by omega : i < _); omega))) ?_
   refine OK.seg 1 (by kernel_rfl) (OK.nil ?_)
   have hsk := fun (q : ¬ (grPr s 0 ctl src) ((s.ls 8).getD i 0)) => fskip h5 (by omega) q
   have had := fun (q : (grPr s 0 ctl src) ((s.ls 8).getD i 0)) => fadd h5 (by omega) q
   exact ⟨([.agg (cS s), I 0, .agg [I src, I ctl, I x2, I x3], .ptr 0 0, undefA, .ptr 1 0, .list [] true, .sl 3 yg 0 ys.length, undefA, .opq, .opq, .opq, .agg (cS s), .nilIface, .bool false, .bool false, I 0, .bool false, .bool false, .bool false, I 0, .bool false, .bool false, .ptr 0 1, .ptr 0 9, .list ((s.ls 8).map I) false, I ((((s.ls 8).map I).length : Nat) : Int), I ((i + 1 : Nat) : Int)] ++ List.replicate 36 .opq ++ [undefA] : List AV), [.box (cS s) false, .box [I src, I ctl, I x2, I x3] false, .box [] true, .rows ((ys).map I) yg 1 false, .box [.bool true, .bool true, .bool false, .bool false] false], [0, 1, 3, 0, 0], [[], [], [], [], []], by kernel_rfl, by kernel_rfl, by simp only [bS], by simp only [bS], by kernel_rfl, m7 - 1, by omega, i + 1, by omega, by omega, .inr ⟨ys, yg, ys.length, rfl, hsk (by intro q; first | (exfalso; omega) | exact absurd q.1 (by assumption) | exact (show ¬ (rightS s ∧ cre s ((s.ls 8).getD i 0)) by assumption) ⟨by assumption, q.1⟩ | (have q2 := q.2; omega)), by kernel_rfl, by kernel_rfl⟩⟩
  refine OK.seg 1 (by kernel_rfl) (OK.nil ?_)
  refine X.condT (by kernel_rfl) ?_
  refine X.region (OK.seg 3 (by kernel_rfl) ?_)
  refine OK.opS (.sl 3 (yg + 1) 0 (ys.length + 1)) [.box (cS s) false, .box [I src, I ctl, I x2, I x3] false, .box [] true, .rows (((ys) ++ [(((s.ls 8).getD i 0))]).map I) (yg + 1) 1 false, .box [.bool true, .bool true, .bool false, .bool false] false] (by kernel_rfl) (ap_sl (b := 3) (n := yg) (ex := true) (g := I) (ys := ys) (v := (((s.ls 8).getD i 0))) rfl rfl rfl rfl Tryz.underlying23 Tryz.underlying23 (by kernel_rfl) (by_ := 8) (by kernel_rfl) (z := I 0) (by kernel_rfl) rfl (by omega) (fun _ => rfl) (fun _ => rfl) (by kernel_rfl) (by kernel_rfl) (Nat.zero_le _) (ap_bd (by omega)) (by kernel_rfl)) ?_
  refine OK.seg 1 (by kernel_rfl) (OK.nil ?_)
  refine X.region ?_
  refine OK.val (I ((i + 1 : Nat) : Int)) (by kernel_rfl) (fun _ => add_op (k := .i64) (a := ((i : Nat) : Int)) (b := 1) rfl (by kernel_rfl) (by kernel_rfl) (by rw [wrap64] <;> first | omega | (have q := ids8 (by assumption) (by omega : i < _); omega))) ?_
  refine OK.seg 1 (by kernel_rfl) (OK.nil ?_)
  have hsk := fun (q : ¬ (grPr s 0 ctl src) ((s.ls 8).getD i 0)) => fskip h5 (by omega) q
  have had := fun (q : (grPr s 0 ctl src) ((s.ls 8).getD i 0)) => fadd h5 (by omega) q
  exact ⟨([.agg (cS s), I 0, .agg [I src, I ctl, I x2, I x3], .ptr 0 0, undefA, .ptr 1 0, .list [] true, .sl 3 (yg + 1) 0 (ys.length + 1), undefA, .opq, .opq, .opq, .agg (cS s), .nilIface, .bool false, .bool false, I 0, .bool false, .bool false, .bool false, I 0, .bool false, .bool false, .ptr 0 1, .ptr 0 9, .list ((s.ls 8).map I) false, I ((((s.ls 8).map I).length : Nat) : Int), I ((i + 1 : Nat) : Int)] ++ List.replicate 36 .opq ++ [undefA] : List AV), [.box (cS s) false, .box [I src, I ctl, I x2, I x3] false, .box [] true, .rows (((ys) ++ [(((s.ls 8).getD i 0))]).map I) (yg + 1) 1 false, .box [.bool true, .bool true, .bool false, .bool false] false], [0, 1, 3, 0, 0], [[], [], [], [], []], by kernel_rfl, by kernel_rfl, by simp only [bS], by simp only [bS], by kernel_rfl, m7 - 1, by omega, i + 1, by omega, by omega, .inr ⟨ys ++ [(s.ls 8).getD i 0], yg + 1, ys.length + 1, by simp, had (by first | (exfalso; omega) | exact ⟨by first | assumption | exact (by assumption : _ ∧ _).2, by omega⟩), by kernel_rfl, by kernel_rfl⟩⟩

set_option maxHeartbeats 1000000 in
theorem Group_1 : ∀ k (s : St) (src ctl x2 x3 : Int) σ, wf s → 1000000 ≤ k → readW (callW Tryz.prog (exec Tryz.prog cfg k)) 13 [.agg (cS s), I 1, .agg [I src, I ctl, I x2, I x3]] σ = some (.list ((grL s 1 ctl src).map I) false, σ) := by
 intro k s src ctl x2 x3 σ hyp0 hk
 obtain ⟨k, rfl⟩ : ∃ k', k = k' + 60 := ⟨k - 60, by omega⟩
 have hw1 := hyp0.1
 have hw2 := hyp0.2
 have hlm : ((s.objs).map E).length = s.objs.length := List.length_map _
 have hll : ∀ z, ((s.ls z).map I).length = (s.ls z).length := fun z => List.length_map _
 have hl8 := hll 8; have hw8 := hw2 8
 refine reader_of Tryz.func13 rfl (by simp only [AV.frees, AV.free, fr_I, fr_E, fr_cO, fr_cL, fr_cS, Bool.and_self]) ?_
 refine X.seq (X.region (OK.seg 3 (by kernel_rfl) (OK.nil ?_)))
 refine X.seq (X.seq (X.region (OK.seg 1 (by kernel_rfl) ?_)))
 refine OK.rd [.agg (cS s)] [.agg (cS s)] (errS s) rfl (by kernel_rfl) rfl (by kernel_rfl) (by kernel_rfl) (by kernel_rfl) (by kernel_rfl) (by kernel_rfl) (Check_w _ _ _ hyp0 (by omega)) ?_
 rcases errS_cases s with ⟨hRh1, heh1⟩ | ⟨hRh1, vh1, heh1⟩ <;> rw [heh1]
 rotate_left
 ·
  refine OK.seg 9 (by kernel_rfl) (OK.nil ?_)
  refine X.condT (by kernel_rfl) ?_
  refine X.seq (X.region (OK.seg 1 (by kernel_rfl) (OK.nil ?_)))
  refine X.ret ?_
  exact ⟨rfl, giv (r := .list [] false) (by kernel_rfl) (by first | exact gr_wrong (by assumption) | exact gr_other (by omega) | exact gr_right (ys := []) (by assumption) (flt_all (by assumption) (by omega)))⟩
 refine OK.seg 9 (by kernel_rfl) (OK.nil ?_)
 refine X.condF (by kernel_rfl) ?_
 refine X.skip (X.seq (X.region (OK.seg 1 (by kernel_rfl) (OK.nil ?_))))
 refine X.seq (X.seq (X.region (OK.seg 5 (by kernel_rfl) (OK.nil ?_))))
 refine X.block ?_
 refine X.rounds3 (K := 600000) [9, 10, 11, 28, 29, 30, 31, 32, 33, 34, 35, 36, 37, 38, 39, 40, 41, 42, 43, 44, 45, 46, 47, 48, 49, 50, 51, 52, 53, 54, 55, 56, 57, 58, 59, 60, 61, 62, 63] (by kernel_rfl) rfl (fun m fr σ => ∃ i : Nat, m = (s.ls 8).length - i ∧ i ≤ (s.ls 8).length ∧ ((flt (grPr s 1 ctl src) ((s.ls 8).take i) = [] ∧ clearA' [9, 10, 11, 28, 29, 30, 31, 32, 33, 34, 35, 36, 37, 38, 39, 40, 41, 42, 43, 44, 45, 46, 47, 48, 49, 50, 51, 52, 53, 54, 55, 56, 57, 58, 59, 60, 61, 62, 63] fr = ([.agg (cS s), I 1, .agg [I src, I ctl, I x2, I x3], .ptr 0 0, undefA, .ptr 1 0, .list [] true, .list [] true, undefA, .opq, .opq, .opq, .agg (cS s), .nilIface, .bool false, .bool false, I 1, .bool false, .bool false, .bool false, I 1, .bool false, .bool false, .ptr 0 1, .ptr 0 9, .list ((s.ls 8).map I) false, I ((((s.ls 8).map I).length : Nat) : Int), I ((i : Nat) : Int)] ++ List.replicate 36 .opq ++ [undefA] : List AV) ∧ σ = [.box (cS s) false, .box [I src, I ctl, I x2, I x3] false]) ∨ ∃ (ys : List Int) (yg yn : Nat), yn = ys.length ∧ flt (grPr s 1 ctl src) ((s.ls 8).take i) = ys ∧ clearA' [9, 10, 11, 28, 29, 30, 31, 32, 33, 34, 35, 36, 37, 38, 39, 40, 41, 42, 43, 44, 45, 46, 47, 48, 49, 50, 51, 52, 53, 54, 55, 56, 57, 58, 59, 60, 61, 62, 63] fr = ([.agg (cS s), I 1, .agg [I src, I ctl, I x2, I x3], .ptr 0 0, undefA, .ptr 1 0, .list [] true, .sl 3 yg 0 yn, undefA, .opq, .opq, .opq, .agg (cS s), .nilIface, .bool false, .bool false, I 1, .bool false, .bool false, .bool false, I 1, .bool false, .bool false, .ptr 0 1, .ptr 0 9, .list ((s.ls 8).map I) false, I ((((s.ls 8).map I).length : Nat) : Int), I ((i : Nat) : Int)] ++ List.replicate 36 .opq ++ [undefA] : List AV) ∧ σ = [.box (cS s) false, .box [I src, I ctl, I x2, I x3] false, .box [] true, .rows ((ys).map I) yg 1 false])) ?_ (m := (s.ls 8).length) ⟨0, rfl, Nat.zero_le _, .inl ⟨rfl, by kernel_rfl, by kernel_rfl⟩⟩ ?_
 rotate_left
 · omega
 rintro m7 fr σ ⟨i, h3, h4, ⟨h5, h6, rfl⟩ | ⟨ys, yg, yn, rfl, h5, h6, rfl⟩⟩ k h7
 ·
  rw [h6]; clear h6
  have hyl := flt_len h5
  obtain ⟨k, rfl⟩ : ∃ k', k = k' + 60 := ⟨k - 60, by omega⟩
  refine X.seq (X.region ?_)
  refine OK.dec (((i : Nat) : Int) < ((((s.ls 8).map I).length : Nat) : Int)) (by kernel_rfl) (by kernel_rfl) (fun h8 => ?_) (fun h8 => ?_)
  rotate_left
  ·
   refine OK.nil ?_
   refine X.seq (X.condF (by kernel_rfl) ?_)
   refine X.exit ?_
   show X _ _ _ _ _ _ _ _ _
   refine X.seq (X.region (OK.seg 2 (by kernel_rfl) (OK.nil ?_)))
   refine X.ret ?_
   exact ⟨rfl, giv (r := .list [] false) (by kernel_rfl) (by first | exact gr_wrong (by assumption) | exact gr_other (by omega) | exact gr_right (ys := []) (by assumption) (flt_all (by assumption) (by omega)))⟩
  refine OK.nil ?_
  refine X.seq (X.condT (by kernel_rfl) ?_)
  refine X.skip (X.seq (X.block (X.seq (X.region ?_))))
  refine OK.val (.ro [I (((s.ls 8).getD i 0))] 0) (by kernel_rfl) (fun _ => idx_map (sz := 1) (g := I) (d := 0) (xs := s.ls 8) (ex := false) (k := .i64) (n := ((i : Nat) : Int)) rfl Tryz.underlying23 (by kernel_rfl) (by kernel_rfl) (by kernel_rfl) (by kernel_rfl) (by first | omega | (have q := ids8 (by assumption) (by omega : i < _); omega)) (by first | omega | (have q := ids8 (by assumption) (by omega : i < _); omega))) ?_
  refine OK.seg 2 (by kernel_rfl) (OK.nil ?_)
  refine X.seq (X.draw (by kernel_rfl) (by kernel_rfl) (by kernel_rfl) ?_)
  refine DK.seg 3 (by kernel_rfl) ?_
  refine DK.val (.ro (cO ((s.objs).getD (((s.ls 8).getD i 0)).toNat o0)) 0) (by kernel_rfl) (fun _ => idx_map (sz := 18) (g := E) (d := o0) (xs := s.objs) (ex := false) (k := .i64) (n := (((s.ls 8).getD i 0))) rfl Tryz.underlying22 (by kernel_rfl) (by kernel_rfl) (by kernel_rfl) (by kernel_rfl) (by first | omega | (have q := ids8 (by assumption) (by omega : i < _); omega)) (by first | omega | (have q := ids8 (by assumption) (by omega : i < _); omega))) ?_
  refine DK.seg 4 (by kernel_rfl) ?_
  refine DK.dec ((((s.objs).getD (((s.ls 8).getD i 0)).toNat o0) 2) = ctl) (by kernel_rfl) (by kernel_rfl) (fun h9 => ?_) (fun h9 => ?_)
  rotate_left
  ·
   refine DK.seg 1 (by kernel_rfl) (DK.nil ?_)
   refine X.seq (X.region (OK.segE 13 ([.agg (cS s), I 1, .agg [I src, I ctl, I x2, I x3], .ptr 0 0, undefA, .ptr 1 0, .list [] true, .list [] true, undefA, I (((s.ls 8).getD i 0)), .bool false, .ptr 2 0, .agg (cS s), .nilIface, .bool false, .bool false, I 1, .bool false, .bool false, .bool false, I 1, .bool false, .bool false, .ptr 0 1, .ptr 0 9, .list ((s.ls 8).map I) false, I ((((s.ls 8).map I).length : Nat) : Int), I ((i : Nat) : Int), .bool true, .ro [I (((s.ls 8).getD i 0))] 0, I (((s.ls 8).getD i 0)), .ptr 0 0, .list ((s.objs).map E) false, I (((s.ls 8).getD i 0)), .ro (cO ((s.objs).getD (((s.ls 8).getD i 0)).toNat o0)) 0, .ro (cO ((s.objs).getD (((s.ls 8).getD i 0)).toNat o0)) 2, I (((s.objs).getD (((s.ls 8).getD i 0)).toNat o0) 2), .ptr 1 1, I ctl, .bool false, .bool false, .bool false, .bool true, .bool false, .bool false] ++ List.replicate 4 undefA ++ [.bool false, .agg [.bool true, .bool false, .bool true, .bool false]] ++ List.replicate 13 .opq ++ [undefA] : List AV) [.box (cS s) false, .box [I src, I ctl, I x2, I x3] false, .box [.bool true, .bool false, .bool true, .bool false] false] (by kernel_rfl) (OK.nil ?_)))
   refine X.seq (X.region (OK.seg 8 (by kernel_rfl) (OK.nil ?_)))
   refine X.condF (by kernel_rfl) ?_
   refine X.skip (X.region ?_)
   refine OK.val (I ((i + 1 : Nat) : Int)) (by kernel_rfl) (fun _ => add_op (k := .i64) (a := ((i : Nat) : Int)) (b := 1) rfl (by kernel_rfl) (by kernel_rfl) (by rw [wrap64] <;> first | omega | (have q := ids8 (by assumption) (by omega : i < _); omega))) ?_
   refine OK.seg 1 (by kernel_rfl) (OK.nil ?_)
   have hsk := fun (q : ¬ (grPr s 1 ctl src) ((s.ls 8).getD i 0)) => fskip h5 (by omega) q
   have had := fun (q : (grPr s 1 ctl src) ((s.ls 8).getD i 0)) => fadd h5 (by omega) q
   exact ⟨([.agg (cS s), I 1, .agg [I src, I ctl, I x2, I x3], .ptr 0 0, undefA, .ptr 1 0, .list [] true, .list [] true, undefA, .opq, .opq, .opq, .agg (cS s), .nilIface, .bool false, .bool false, I 1, .bool false, .bool false, .bool false, I 1, .bool false, .bool false, .ptr 0 1, .ptr 0 9, .list ((s.ls 8).map I) false, I ((((s.ls 8).map I).length : Nat) : Int), I ((i + 1 : Nat) : Int)] ++ List.replicate 36 .opq ++ [undefA] : List AV), [.box (cS s) false, .box [I src, I ctl, I x2, I x3] false, .box [.bool true, .bool false, .bool true, .bool false] false], [0, 1, 0, 0], [[], [], []], by kernel_rfl, by kernel_rfl, by simp only [bS], by simp only [bS], by kernel_rfl, m7 - 1, by omega, i + 1, by omega, by omega, .inl ⟨hsk (by intro q; first | (exfalso; omega) | exact absurd q.1 (by assumption) | exact (show ¬ (rightS s ∧ cre s ((s.ls 8).getD i 0)) by assumption) ⟨by assumption, q.1⟩ | (have q2 := q.2; omega)), by kernel_rfl, by kernel_rfl⟩⟩
  refine DK.seg 1 (by kernel_rfl) (DK.nil ?_)
  refine X.seq (X.region (OK.seg 8 (by kernel_rfl) ?_))
  refine OK.ndec ((((s.ls 8).getD i 0)) = src) (by kernel_rfl) (by kernel_rfl) (fun h10 => ?_) (fun h10 => ?_)
  ·
   refine OK.seg 4 (by kernel_rfl) (OK.nil ?_)
   refine X.seq (X.region (OK.seg 6 (by kernel_rfl) ?_))
   refine OK.rdP [.agg (cS s), I (((s.ls 8).getD i 0))] [.agg (cS s), I (((s.ls 8).getD i 0))] (rightS s ∧ cre s (((s.ls 8).getD i 0))) rfl (by kernel_rfl) rfl (by kernel_rfl) (by kernel_rfl) (by kernel_rfl) (by kernel_rfl) (by kernel_rfl) (Is_w _ _ _ _ hyp0 (by omega)) (fun h11 => ?_) (fun h11 => ?_)
   rotate_left
   ·
    refine OK.seg 1 (by kernel_rfl) (OK.nil ?_)
    refine X.condF (by kernel_rfl) ?_
    refine X.skip (X.region ?_)
    refine OK.val (I ((i + 1 : Nat) : Int)) (by kernel_rfl) (fun _ => add_op (k := .i64) (a := ((i : Nat) : Int)) (b := 1) rfl (by kernel_rfl) (by kernel_rfl) (by rw [wrap64] <;> first | omega | (have q := ids8 (by assumption) (by omega : i < _); omega))) ?_
    refine OK.seg 1 (by kernel_rfl) (OK.nil ?_)
    have hsk := fun (q : ¬ (grPr s 1 ctl src) ((s.ls 8).getD i 0)) => fskip h5 (by omega) q
    have had := fun (q : (grPr s 1 ctl src) ((s.ls 8).getD i 0)) => fadd h5 (by omega) q
    exact ⟨([.agg (cS s), I 1, .agg [I src, I ctl, I x2, I x3], .ptr 0 0, undefA, .ptr 1 0, .list [] true, .list [] true, undefA, .opq, .opq, .opq, .agg (cS s), .nilIface, .bool false, .bool false, I 1, .bool false, .bool false, .bool false, I 1, .bool false, .bool false, .ptr 0 1, .ptr 0 9, .list ((s.ls 8).map I) false, I ((((s.ls 8).map I).length : Nat) : Int), I ((i + 1 : Nat) : Int)] ++ List.replicate 36 .opq ++ [undefA] : List AV), [.box (cS s) false, .box [I src, I ctl, I x2, I x3] false, .box [.bool true, .bool true, .bool false, .bool true] false], [0, 1, 0, 0], [[], [], []], by kernel_rfl, by kernel_rfl, by simp only [bS], by simp only [bS], by kernel_rfl, m7 - 1, by omega, i + 1, by omega, by omega, .inl ⟨hsk (by intro q; first | (exfalso; omega) | exact absurd q.1 (by assumption) | exact (show ¬ (rightS s ∧ cre s ((s.ls 8).getD i 0)) by assumption) ⟨by assumption, q.1⟩ | (have q2 := q.2; omega)), by kernel_rfl, by kernel_rfl⟩⟩
   refine OK.seg 1 (by kernel_rfl) (OK.nil ?_)
   refine X.condT (by kernel_rfl) ?_
   refine X.region (OK.seg 5 (by kernel_rfl) (OK.nil ?_))
   refine X.region ?_
   refine OK.val (I ((i + 1 : Nat) : Int)) (by kernel_rfl) (fun _ => add_op (k := .i64) (a := ((i : Nat) : Int)) (b := 1) rfl (by kernel_rfl) (by kernel_rfl) (by rw [wrap64] <;> first | omega | (have q := ids8 (by assumption) (by omega : i < _); omega))) ?_
   refine OK.seg 1 (by kernel_rfl) (OK.nil ?_)
   have hsk := fun (q : ¬ (grPr s 1 ctl src) ((s.ls 8).getD i 0)) => fskip h5 (by omega) q
   have had := fun (q : (grPr s 1 ctl src) ((s.ls 8).getD i 0)) => fadd h5 (by omega) q
   exact ⟨([.agg (cS s), I 1, .agg [I src, I ctl, I x2, I x3], .ptr 0 0, undefA, .ptr 1 0, .list [] true, .sl 3 0 0 1, undefA, .opq, .opq, .opq, .agg (cS s), .nilIface, .bool false, .bool false, I 1, .bool false, .bool false, .bool false, I 1, .bool false, .bool false, .ptr 0 1, .ptr 0 9, .list ((s.ls 8).map I) false, I ((((s.ls 8).map I).length : Nat) : Int), I ((i + 1 : Nat) : Int)] ++ List.replicate 36 .opq ++ [undefA] : List AV), [.box (cS s) false, .box [I src, I ctl, I x2, I x3] false, .box [.bool true, .bool true, .bool false, .bool true] false, .rows (([(((s.ls 8).getD i 0))]).map I) 0 1 false], [0, 1, 3, 0, 0], [[], [], [], []], by kernel_rfl, by kernel_rfl, by simp only [bS], by simp only [bS], by kernel_rfl, m7 - 1, by omega, i + 1, by omega, by omega, .inr ⟨[(s.ls 8).getD i 0], 0, 1, rfl, had (by first | (exfalso; omega) | exact ⟨by first | assumption | exact (by assumption : _ ∧ _).2, by omega⟩), by kernel_rfl, by kernel_rfl⟩⟩
  refine OK.seg 4 (by kernel_rfl) (OK.nil ?_)
  refine X.seq (X.region (OK.seg 6 (by kernel_rfl) ?_))
  refine OK.rdP [.agg (cS s), I (((s.ls 8).getD i 0))] [.agg (cS s), I (((s.ls 8).getD i 0))] (rightS s ∧ cre s (((s.ls 8).getD i 0))) rfl (by kernel_rfl) rfl (by kernel_rfl) (by kernel_rfl) (by kernel_rfl) (by kernel_rfl) (by kernel_rfl) (Is_w _ _ _ _ hyp0 (by omega)) (fun h12 => ?_) (fun h12 => ?_)
  rotate_left
  ·
   refine OK.seg 1 (by kernel_rfl) (OK.nil ?_)
   refine X.condF (by kernel_rfl) ?_
   refine X.skip (X.region ?_)
   refine OK.val (I ((i + 1 : Nat) : Int)) (by kernel_rfl) (fun _ => add_op (k := .i64) (a := ((i : Nat) : Int)) (b := 1) rfl (by kernel_rfl) (by kernel_rfl) (by rw [wrap64] <;> first | omega | (have q := ids8 (by assumption) (by omega : i < _); omega))) ?_
   refine OK.seg 1 (by kernel_rfl) (OK.nil ?_)
   have hsk := fun (q : ¬ (grPr s 1 ctl src) ((s.ls 8).getD i 0)) => fskip h5 (by omega) q
   have had := fun (q : (grPr s 1 ctl src) ((s.ls 8).getD i 0)) => fadd h5 (by omega) q
   exact ⟨([.agg (cS s), I 1, .agg [I src, I ctl, I x2, I x3], .ptr 0 0, undefA, .ptr 1 0, .list [] true, .list [] true, undefA, .opq, .opq, .opq, .agg (cS s), .nilIface, .bool false, .bool false, I 1, .bool false, .bool false, .bool false, I 1, .bool false, .bool false, .ptr 0 1, .ptr 0 9, .list ((s.ls 8).map I) false, I ((((s.ls 8).map I).length : Nat) : Int), I ((i + 1 : Nat) : Int)] ++ List.replicate 36 .opq ++ [undefA] : List AV), [.box (cS s) false, .box [I src, I ctl, I x2, I x3] false, .box [.bool true, .bool true, .bool false, .bool false] false], [0, 1, 0, 0], [[], [], []], by kernel_rfl, by kernel_rfl, by simp only [bS], by simp only [bS], by kernel_rfl, m7 - 1, by omega, i + 1, by omega, by omega, .inl ⟨hsk (by intro q; first | (exfalso; omega) | exact absurd q.1 (by assumption) | exact (show ¬ (rightS s ∧ cre s ((s.ls 8).getD i 0)) by assumption) ⟨by assumption, q.1⟩ | (have q2 := q.2; omega)), by kernel_rfl, by kernel_rfl⟩⟩
  refine OK.seg 1 (by kernel_rfl) (OK.nil ?_)
  refine X.condT (by kernel_rfl) ?_
  refine X.region (OK.seg 5 (by kernel_rfl) (OK.nil ?_))
  refine X.region ?_
  refine OK.val (I ((i + 1 : Nat) : Int)) (by kernel_rfl) (fun _ => add_op (k := .i64) (a := ((i : Nat) : Int)) (b := 1) rfl (by kernel_rfl) (by kernel_rfl) (by rw [wrap64] <;> first | omega | (have q := ids8 (by assumption) (by omega : i < _); omega))) ?_
  refine OK.seg 1 (by kernel_rfl) (OK.nil ?_)
  have hsk := fun (q : ¬ (grPr s 1 ctl src) ((s.ls 8).getD i 0)) => fskip h5 (by omega) q
  have had := fun (q : (grPr s 1 ctl src) ((s.ls 8).getD i 0)) => fadd h5 (by omega) q
  exact ⟨([.agg (cS s), I 1, .agg [I src, I ctl, I x2, I x3], .ptr 0 0, undefA, .ptr 1 0, .list [] true, .sl 3 0 0 1, undefA, .opq, .opq, .opq, .agg (cS s), .nilIface, .bool false, .bool false, I 1, .bool false, .bool false, .bool false, I 1, .bool false, .bool false, .ptr 0 1, .ptr 0 9, .list ((s.ls 8).map I) false, I ((((s.ls 8).map I).length : Nat) : Int), I ((i + 1 : Nat) : Int)] ++ List.replicate 36 .opq ++ [undefA] : List AV), [.box (cS s) false, .box [I src, I ctl, I x2, I x3] false, .box [.bool true, .bool true, .bool false, .bool false] false, .rows (([(((s.ls 8).getD i 0))]).map I) 0 1 false], [0, 1, 3, 0, 0], [[], [], [], []], by kernel_rfl, by kernel_rfl, by simp only [bS], by simp only [bS], by kernel_rfl, m7 - 1, by omega, i + 1, by omega, by omega, .inr ⟨[(s.ls 8).getD i 0], 0, 1, rfl, had (by first | (exfalso; omega) | exact ⟨by first | assumption | exact (by assumption : _ ∧ _).2, by omega⟩), by kernel_rfl, by kernel_rfl⟩⟩
 ·
  rw [h6]; clear h6
  have hyl := flt_len h5
  obtain ⟨k, rfl⟩ : ∃ k', k = k' + 60 := ⟨k - 60, by omega⟩
  refine X.seq (X.region ?_)
  refine OK.dec (((i : Nat) : Int) < ((((s.ls 8).map I).length : Nat) : Int)) (by kernel_rfl) (by kernel_rfl) (fun h13 => ?_) (fun h13 => ?_)
  rotate_left
  ·
   refine OK.nil ?_
   refine X.seq (X.condF (by kernel_rfl) ?_)
   refine X.exit ?_
   show X _ _ _ _ _ _ _ _ _
   refine X.seq (X.region (OK.seg 2 (by kernel_rfl) (OK.nil ?_)))
   refine X.ret ?_
   exact ⟨rfl, giv (gives_sl (g := I) (fun _ _ => rfl) (fun _ => rfl) (b := 3) (n := yg) (ys := ys) (sz := 1) (by kernel_rfl) (by kernel_rfl)) (by first | exact gr_wrong (by assumption) | exact gr_other (by omega) | exact gr_right (ys := ys) (by assumption) (flt_all (by assumption) (by omega)))⟩
  refine OK.nil ?_
  refine X.seq (X.condT (by kernel_rfl) ?_)
  refine X.skip (X.seq (X.block (X.seq (X.region ?_))))
  refine OK.val (.ro [I (((s.ls 8).getD i 0))] 0) (by kernel_rfl) (fun _ => idx_map (sz := 1) (g := I) (d := 0) (xs := s.ls 8) (ex := false) (k := .i64) (n := ((i : Nat) : Int)) rfl Tryz.underlying23 (by kernel_rfl) (by kernel_rfl) (by kernel_rfl) (by kernel_rfl) (by first | omega | (have q := ids8 (by assumption) (by omega : i < _); omega)) (by first | omega | (have q := ids8 (by assumption) (by omega : i < _); omega))) ?_
  refine OK.seg 2 (by kernel_rfl) (OK.nil ?_)
  refine X.seq (X.draw (by kernel_rfl) (by kernel_rfl) (by kernel_rfl) ?_)
  refine DK.seg 3 (by kernel_rfl) ?_
  refine DK.val (.ro (cO ((s.objs).getD (((s.ls 8).getD i 0)).toNat o0)) 0) (by kernel_rfl) (fun _ => idx_map (sz := 18) (g := E) (d := o0) (xs := s.objs) (ex := false) (k := .i64) (n := (((s.ls 8).getD i 0))) rfl Tryz.underlying22 (by kernel_rfl) (by kernel_rfl) (by kernel_rfl) (by kernel_rfl) (by first | omega | (have q := ids8 (by assumption) (by omega : i < _); omega)) (by first | omega | (have q := ids8 (by assumption) (by omega : i < _); omega))) ?_
  refine DK.seg 4 (by kernel_rfl) ?_
  refine DK.dec ((((s.objs).getD (((s.ls 8).getD i 0)).toNat o0) 2) = ctl) (by kernel_rfl) (by kernel_rfl) (fun h14 => ?_) (fun h14 => ?_)
  rotate_left
  ·
   refine DK.seg 1 (by kernel_rfl) (DK.nil ?_)
   refine X.seq (X.region (OK.segE 13 ([.agg (cS s), I 1, .agg [I src, I ctl, I x2, I x3], .ptr 0 0, undefA, .ptr 1 0, .list [] true, .sl 3 yg 0 ys.length, undefA, I (((s.ls 8).getD i 0)), .bool false, .ptr 4 0, .agg (cS s), .nilIface, .bool false, .bool false, I 1, .bool false, .bool false, .bool false, I 1, .bool false, .bool false, .ptr 0 1, .ptr 0 9, .list ((s.ls 8).map I) false, I ((((s.ls 8).map I).length : Nat) : Int), I ((i : Nat) : Int), .bool true, .ro [I (((s.ls 8).getD i 0))] 0, I (((s.ls 8).getD i 0)), .ptr 0 0, .list ((s.objs).map E) false, I (((s.ls 8).getD i 0)), .ro (cO ((s.objs).getD (((s.ls 8).getD i 0)).toNat o0)) 0, .ro (cO ((s.objs).getD (((s.ls 8).getD i 0)).toNat o0)) 2, I (((s.objs).getD (((s.ls 8).getD i 0)).toNat o0) 2), .ptr 1 1, I ctl, .bool false, .bool false, .bool false, .bool true, .bool false, .bool false] ++ List.replicate 4 undefA ++ [.bool false, .agg [.bool true, .bool false, .bool true, .bool false]] ++ List.replicate 13 .opq ++ [undefA] : List AV) [.box (cS s) false, .box [I src, I ctl, I x2, I x3] false, .box [] true, .rows ((ys).map I) yg 1 false, .box [.bool true, .bool false, .bool true, .bool false] false] (by kernel_rfl) (OK.nil ?_)))
   refine X.seq (X.region (OK.seg 8 (by kernel_rfl) (OK.nil ?_)))
   refine X.condF (by kernel_rfl) ?_
   refine X.skip (X.region ?_)
   refine OK.val (I ((i + 1 : Nat) : Int)) (by kernel_rfl) (fun _ => add_op (k := .i64) (a := ((i : Nat) : Int)) (b := 1) rfl (by kernel_rfl) (by kernel_rfl) (by rw [wrap64] <;> first | omega | (have q := ids8 (by assumption) (by omega : i < _); omega))) ?_
   refine OK.seg 1 (by kernel_rfl) (OK.nil ?_)
   have hsk := fun (q : ¬ (grPr s 1 ctl src) ((s.ls 8).getD i 0)) => fskip h5 (by omega) q
   have had := fun (q : (grPr s 1 ctl src) ((s.ls 8).getD i 0)) => fadd h5 (by omega) q
   exact ⟨([.agg (cS s), I 1, .agg [I src, I ctl, I x2, I x3], .ptr 0 0, undefA, .ptr 1 0, .list [] true, .sl 3 yg 0 ys.length, undefA, .opq, .opq, .opq, .agg (cS s), .nilIface, .bool false, .bool false, I 1, .bool false, .bool false, .bool false, I 1, .bool false, .bool false, .ptr 0 1, .ptr 0 9, .list ((s.ls 8).map I) false, I ((((s.ls 8).map I).length : Nat) : Int), I ((i + 1 : Nat) : Int)] ++ List.replicate 36 .opq ++ [undefA] : List AV), [.box (cS s) false, .box [I src, I ctl, I x2, I x3] false, .box [] true, .rows ((ys).map I) yg 1 false, .box [.bool true, .bool false, .bool true, .bool false] false], [0, 1, 3, 0, 0], [[], [], [], [], []], by kernel_rfl, by kernel_rfl, by simp only [bS], by simp only [bS], by kernel_rfl, m7 - 1, by omega, i + 1, by omega, by omega, .inr ⟨ys, yg, ys.length, rfl, hsk (by intro q; first | (exfalso; omega) | exact absurd q.1 (by assumption) | exact (show ¬ (rightS s ∧ cre s ((s.ls 8).getD i 0)) by assumption) ⟨by assumption, q.1⟩ | (have q2 := q.2; omega)), by kernel_rfl, by kernel_rfl⟩⟩
  refine DK.seg 1 (by kernel_rfl) (DK.nil ?_)
  refine X.seq (X.region (OK.seg 8 (by kernel_rfl) ?_))
  refine OK.ndec ((((s.ls 8).getD i 0)) = src) (by kernel_rfl) (by kernel_rfl) (fun h15 => ?_) (fun h15 => ?_)
  ·
   refine OK.seg 4 (by kernel_rfl) (OK.nil ?_)
   refine X.seq (X.region (OK.seg 6 (by kernel_rfl) ?_))
   refine OK.rdP [.agg (cS s), I (((s.ls 8).getD i 0))] [.agg (cS s), I (((s.ls 8).getD i 0))] (rightS s ∧ cre s (((s.ls 8).getD i 0))) rfl (by kernel_rfl) rfl (by kernel_rfl) (by kernel_rfl) (by kernel_rfl) (by kernel_rfl) (by kernel_rfl) (Is_w _ _ _ _ hyp0 (by omega)) (fun h16 => ?_) (fun h16 => ?_)
   rotate_left
   ·
    refine OK.seg 1 (by kernel_rfl) (OK.nil ?_)
    refine X.condF (by kernel_rfl) ?_
    refine X.skip (X.region ?_)
    refine OK.val (I ((i + 1 : Nat) : Int)) (by kernel_rfl) (fun _ => add_op (k := .i64) (a := ((i : Nat) : Int)) (b := 1) rfl (by kernel_rfl) (by kernel_rfl) (by rw [wrap64] <;> first | omega | (have q := ids8 (by assumption) (by omega : i < _); omega))) ?_
    refine OK.seg 1 (by kernel_rfl) (OK.nil ?_)
    have hsk := fun (q : ¬ (grPr s 1 ctl src) ((s.ls 8).getD i 0)) => fskip h5 (by omega) q
    have had := fun (q : (grPr s 1 ctl src) ((s.ls 8).getD i 0)) => fadd h5 (by omega) q
    exact ⟨([.agg (cS s), I 1, .agg [I src, I ctl, I x2, I x3], .ptr 0 0, undefA, .ptr 1 0, .list [] true, .sl 3 yg 0 ys.length, undefA, .opq, .opq, .opq, .agg (cS s), .nilIface, .bool false, .bool false, I 1, .bool false, .bool false, .bool false, I 1, .bool false, .bool false, .ptr 0 1, .ptr 0 9, .list ((s.ls 8).map I) false, I ((((s.ls 8).map I).length : Nat) : Int), I ((i + 1 : Nat) : Int)] ++ List.replicate 36 .opq ++ [undefA] : List AV), [.box (cS s) false, .box [I src, I ctl, I x2, I x3] false, .box [] true, .rows ((ys).map I) yg 1 false, .box [.bool true, .bool true, .bool false, .bool true] false], [0, 1, 3, 0, 0], [[], [], [], [], []], by kernel_rfl, by kernel_rfl, by simp only [bS], by simp only [bS], by kernel_rfl, m7 - 1, by omega, i + 1, by omega, by omega, .inr ⟨ys, yg, ys.length, rfl, hsk (by intro q; first | (exfalso; omega) | exact absurd q.1 (by assumption) | exact (show ¬ (rightS s ∧ cre s ((s.ls 8).getD i 0)) by assumption) ⟨by assumption, q.1⟩ | (have q2 := q.2; omega)), by kernel_rfl, by kernel_rfl⟩⟩
   refine OK.seg 1 (by kernel_rfl) (OK.nil ?_)
   refine X.condT (by kernel_rfl) ?_
   refine X.region (OK.seg 3 (by kernel_rfl) ?_)
   refine OK.opS (.sl 3 (yg + 1) 0 (ys.length + 1)) [.box (cS s) false, .box [I src, I ctl, I x2, I x3] false, .box [] true, .rows (((ys) ++ [(((s.ls 8).getD i 0))]).map I) (yg + 1) 1 false, .box [.bool true, .bool true, .bool false, .bool true] false] (by kernel_rfl) (ap_sl (b := 3) (n := yg) (ex := true) (g := I) (ys := ys) (v := (((s.ls 8).getD i 0))) rfl rfl rfl rfl Tryz.underlying23 Tryz.underlying23 (by kernel_rfl) (by_ := 8) (by kernel_rfl) (z := I 0) (by kernel_rfl) rfl (by omega) (fun _ => rfl) (fun _ => rfl) (by kernel_rfl) (by kernel_rfl) (Nat.zero_le _) (ap_bd (by omega)) (by kernel_rfl)) ?_
   refine OK.seg 1 (by kernel_rfl) (OK.nil ?_)
   refine X.region ?_
   refine OK.val (I ((i + 1 : Nat) : Int)) (by kernel_rfl) (fun _ => add_op (k := .i64) (a := ((i : Nat) : Int)) (b := 1) rfl (by kernel_rfl) (by kernel_rfl) (by rw [wrap64] <;> first | omega | (have q := ids8 (by assumption) (by omega : i < _); omega))) ?_
   refine OK.seg 1 (by kernel_rfl) (OK.nil ?_)
   have hsk := fun (q : ¬ (grPr s 1 ctl src) ((s.ls 8).getD i 0)) => fskip h5 (by omega) q
   have had := fun (q : (grPr s 1 ctl src) ((s.ls 8).getD i 0)) => fadd h5 (by omega) q
   exact ⟨([.agg (cS s), I 1, .agg [I src, I ctl, I x2, I x3], .ptr 0 0, undefA, .ptr 1 0, .list [] true, .sl 3 (yg + 1) 0 (ys.length + 1), undefA, .opq, .opq, .opq, .agg (cS s), .nilIface, .bool false, .bool false, I 1, .bool false, .bool false, .bool false, I 1, .bool false, .bool false, .ptr 0 1, .ptr 0 9, .list ((s.ls 8).map I) false, I ((((s.ls 8).map I).length : Nat) : Int), I ((i + 1 : Nat) : Int)] ++ List.replicate 36 .opq ++ [undefA] : List AV), [.box (cS s) false, .box [I src, I ctl, I x2, I x3] false, .box [] true, .rows (((ys) ++ [(((s.ls 8).getD i 0))]).map I) (yg + 1) 1 false, .box [.bool true, .bool true, .bool false, .bool true] false], [0, 1, 3, 0, 0], [[], [], [], [], []], by kernel_rfl, by kernel_rfl, by simp only [bS], by simp only [bS], by kernel_rfl, m7 - 1, by omega, i + 1, by omega, by omega, .inr ⟨ys ++ [(s.ls 8).getD i 0], yg + 1, ys.length + 1, by simp, had (by first | (exfalso; omega) | exact ⟨by first | assumption | exact (by assumption : _ ∧ _).2, by omega⟩), by kernel_rfl, by kernel_rfl⟩⟩
  refine OK.seg 4 (by kernel_rfl) (OK.nil ?_)
  refine X.seq (X.region (OK.seg 6 (by kernel_rfl) ?_))
  refine OK.rdP [.agg (cS s), I (((s.ls 8).getD i 0))] [.agg (cS s), I (((s.ls 8).getD i 0))] (rightS s ∧ cre s (((s.ls 8).getD i 0))) rfl (by kernel_rfl) rfl (by kernel_rfl) (by kernel_rfl) (by kernel_rfl) (by kernel_rfl) (by kernel_rfl) (Is_w _ _ _ _ hyp0 (by omega)) (fun h17 => ?_) (fun h17 => ?_)
  rotate_left
  ·
   refine OK.seg 1 (by kernel_rfl) (OK.nil ?_)
   refine X.condF (by kernel_rfl) ?_
   refine X.skip (X.region ?_)
   refine OK.val (I ((i + 1 : Nat) : Int)) (by kernel_rfl) (fun _ => add_op (k := .i64) (a := ((i : Nat) : Int)) (b := 1) rfl (by kernel_rfl) (by kernel_rfl) (by rw [wrap64] <;> first | omega | (have q := ids8 (by assumption) (by omega : i < _); omega))) ?_
   refine OK.seg 1 (by kernel_rfl) (OK.nil ?_)
   have hsk := fun (q : ¬ (grPr s 1 ctl src) ((s.ls 8).getD i 0)) => fskip h5 (by omega) q
   have had := fun (q : (grPr s 1 ctl src) ((s.ls 8).getD i 0)) => fadd h5 (by omega) q
   exact ⟨([.agg (cS s), I 1, .agg [I src, I ctl, I x2, I x3], .ptr 0 0, undefA, .ptr 1 0, .list [] true, .sl 3 yg 0 ys.length, undefA, .opq, .opq, .opq, .agg (cS s), .nilIface, .bool false, .bool false, I 1, .bool false, .bool false, .bool false, I 1, .bool false, .bool false, .ptr 0 1, .ptr 0 9, .list ((s.ls 8).map I) false, I ((((s.ls 8).map I).length : Nat) : Int), I ((i + 1 : Nat) : Int)] ++ List.replicate 36 .opq ++ [undefA] : List AV), [.box (cS s) false, .box [I src, I ctl, I x2, I x3] false, .box [] true, .rows ((ys).map I) yg 1 false, .box [.bool true, .bool true, .bool false, .bool false] false], [0, 1, 3, 0, 0], [[], [], [], [], []], by kernel_rfl, by kernel_rfl, by simp only [bS], by simp only [bS], by kernel_rfl, m7 - 1, by omega, i + 1, by omega, by omega, .inr ⟨ys, yg, ys.length, rfl, hsk (by intro q; first | (exfalso; omega) | exact absurd q.1 (by assumption) | exact (show ¬ (rightS s ∧ cre s ((s.ls 8).getD i 0)) by assumption) ⟨by assumption, q.1⟩ | (have q2 := q.2; omega)), by kernel_rfl, by kernel_rfl⟩⟩
  refine OK.seg 1 (by kernel_rfl) (OK.nil ?_)
  refine X.condT (by kernel_rfl) ?_
  refine X.region (OK.seg 3 (by kernel_rfl) ?_)
  refine OK.opS (.sl 3 (yg + 1) 0 (ys.length + 1)) [.box (cS s) false, .box [I src, I ctl, I x2, I x3] false, .box [] true, .rows (((ys) ++ [(((s.ls 8).getD i 0))]).map I) (yg + 1) 1 false, .box [.bool true, .bool true, .bool false, .bool false] false] (by kernel_rfl) (ap_sl (b := 3) (n := yg) (ex := true) (g := I) (ys := ys) (v := (((s.ls 8).getD i 0))) rfl rfl rfl rfl Tryz.underlying23 Tryz.underlying23 (by kernel_rfl) (by_ := 8) (by kernel_rfl) (z := I 0) (by kernel_rfl) rfl (by omega) (fun _ => rfl) (fun _ => rfl) (by kernel_rfl) (by kernel_rfl) (Nat.zero_le _) (ap_bd (by omega)) (by kernel_rfl)) ?_
  refine OK.seg 1 (by kernel_rfl) (OK.nil ?_)
  refine X.region ?_
  refine OK.val (I ((i + 1 : Nat) : Int)) (by kernel_rfl) (fun _ => add_op (k := .i64) (a := ((i : Nat) : Int)) (b := 1) rfl (by kernel_rfl) (by kernel_rfl) (by rw [wrap64] <;> first | omega | (have q := ids8 (by assumption) (by omega : i < _); omega))) ?_
  refine OK.seg 1 (by kernel_rfl) (OK.nil ?_)
  have hsk := fun (q : ¬ (grPr s 1 ctl src) ((s.ls 8).getD i 0)) => fskip h5 (by omega) q
  have had := fun (q : (grPr s 1 ctl src) ((s.ls 8).getD i 0)) => fadd h5 (by omega) q
  exact ⟨([.agg (cS s), I 1, .agg [I src, I ctl, I x2, I x3], .ptr 0 0, undefA, .ptr 1 0, .list [] true, .sl 3 (yg + 1) 0 (ys.length + 1), undefA, .opq, .opq, .opq, .agg (cS s), .nilIface, .bool false, .bool false, I 1, .bool false, .bool false, .bool false, I 1, .bool false, .bool false, .ptr 0 1, .ptr 0 9, .list ((s.ls 8).map I) false, I ((((s.ls 8).map I).length : Nat) : Int), I ((i + 1 : Nat) : Int)] ++ List.replicate 36 .opq ++ [undefA] : List AV), [.box (cS s) false, .box [I src, I ctl, I x2, I x3] false, .box [] true, .rows (((ys) ++ [(((s.ls 8).getD i 0))]).map I) (yg + 1) 1 false, .box [.bool true, .bool true, .bool false, .bool false] false], [0, 1, 3, 0, 0], [[], [], [], [], []], by kernel_rfl, by kernel_rfl, by simp only [bS], by simp only [bS], by kernel_rfl, m7 - 1, by omega, i + 1, by omega, by omega, .inr ⟨ys ++ [(s.ls 8).getD i 0], yg + 1, ys.length + 1, by simp, had (by first | (exfalso; omega) | exact ⟨by first | assumption | exact (by assumption : _ ∧ _).2, by omega⟩), by kernel_rfl, by kernel_rfl⟩⟩

set_option maxHeartbeats 1000000 in
theorem Group_2 : ∀ k (s : St) (src ctl x2 x3 : Int) σ, wf s → 1000000 ≤ k → readW (callW Tryz.prog (exec Tryz.prog cfg k)) 13 [.agg (cS s), I 2, .agg [I src, I ctl, I x2, I x3]] σ = some (.list ((grL s 2 ctl src).map I) false, σ) := by
 intro k s src ctl x2 x3 σ hyp0 hk
 obtain ⟨k, rfl⟩ : ∃ k', k = k' + 60 := ⟨k - 60, by omega⟩
 have hw1 := hyp0.1
 have hw2 := hyp0.2
 have hlm : ((s.objs).map E).length = s.objs.length := List.length_map _
 have hll : ∀ z, ((s.ls z).map I).length = (s.ls z).length := fun z => List.length_map _
 have hl8 := hll 8; have hw8 := hw2 8
 refine reader_of Tryz.func13 rfl (by simp only [AV.frees, AV.free, fr_I, fr_E, fr_cO, fr_cL, fr_cS, Bool.and_self]) ?_
 refine X.seq (X.region (OK.seg 3 (by kernel_rfl) (OK.nil ?_)))
 refine X.seq (X.seq (X.region (OK.seg 1 (by kernel_rfl) ?_)))
 refine OK.rd [.agg (cS s)] [.agg (cS s)] (errS s) rfl (by kernel_rfl) rfl (by kernel_rfl) (by kernel_rfl) (by kernel_rfl) (by kernel_rfl) (by kernel_rfl) (Check_w _ _ _ hyp0 (by omega)) ?_
 rcases errS_cases s with ⟨hRh1, heh1⟩ | ⟨hRh1, vh1, heh1⟩ <;> rw [heh1]
 rotate_left
 ·
  refine OK.seg 9 (by kernel_rfl) (OK.nil ?_)
  refine X.condT (by kernel_rfl) ?_
  refine X.seq (X.region (OK.seg 1 (by kernel_rfl) (OK.nil ?_)))
  refine X.ret ?_
  exact ⟨rfl, giv (r := .list [] false) (by kernel_rfl) (by first | exact gr_wrong (by assumption) | exact gr_other (by omega) | exact gr_right (ys := []) (by assumption) (flt_all (by assumption) (by omega)))⟩
 refine OK.seg 9 (by kernel_rfl) (OK.nil ?_)
 refine X.condF (by kernel_rfl) ?_
 refine X.skip (X.seq (X.region (OK.seg 1 (by kernel_rfl) (OK.nil ?_))))
 refine X.seq (X.seq (X.region (OK.seg 5 (by kernel_rfl) (OK.nil ?_))))
 refine X.block ?_
 refine X.rounds3 (K := 600000) [9, 10, 11, 28, 29, 30, 31, 32, 33, 34, 35, 36, 37, 38, 39, 40, 41, 42, 43, 44, 45, 46, 47, 48, 49, 50, 51, 52, 53, 54, 55, 56, 57, 58, 59, 60, 61, 62, 63] (by kernel_rfl) rfl (fun m fr σ => ∃ i : Nat, m = (s.ls 8).length - i ∧ i ≤ (s.ls 8).length ∧ ((flt (grPr s 2 ctl src) ((s.ls 8).take i) = [] ∧ clearA' [9, 10, 11, 28, 29, 30, 31, 32, 33, 34, 35, 36, 37, 38, 39, 40, 41, 42, 43, 44, 45, 46, 47, 48, 49, 50, 51, 52, 53, 54, 55, 56, 57, 58, 59, 60, 61, 62, 63] fr = ([.agg (cS s), I 2, .agg [I src, I ctl, I x2, I x3], .ptr 0 0, undefA, .ptr 1 0, .list [] true, .list [] true, undefA, .opq, .opq, .opq, .agg (cS s), .nilIface, .bool false, .bool false, I 2, .bool false, .bool false, .bool false, I 2, .bool false, .bool false, .ptr 0 1, .ptr 0 9, .list ((s.ls 8).map I) false, I ((((s.ls 8).map I).length : Nat) : Int), I ((i : Nat) : Int)] ++ List.replicate 36 .opq ++ [undefA] : List AV) ∧ σ = [.box (cS s) false, .box [I src, I ctl, I x2, I x3] false]) ∨ ∃ (ys : List Int) (yg yn : Nat), yn = ys.length ∧ flt (grPr s 2 ctl src) ((s.ls 8).take i) = ys ∧ clearA' [9, 10, 11, 28, 29, 30, 31, 32, 33, 34, 35, 36, 37, 38, 39, 40, 41, 42, 43, 44, 45, 46, 47, 48, 49, 50, 51, 52, 53, 54, 55, 56, 57, 58, 59, 60, 61, 62, 63] fr = ([.agg (cS s), I 2, .agg [I src, I ctl, I x2, I x3], .ptr 0 0, undefA, .ptr 1 0, .list [] true, .sl 3 yg 0 yn, undefA, .opq, .opq, .opq, .agg (cS s), .nilIface, .bool false, .bool false, I 2, .bool false, .bool false, .bool false, I 2, .bool false, .bool false, .ptr 0 1, .ptr 0 9, .list ((s.ls 8).map I) false, I ((((s.ls 8).map I).length : Nat) : Int), I ((i : Nat) : Int)] ++ List.replicate 36 .opq ++ [undefA] : List AV) ∧ σ = [.box (cS s) false, .box [I src, I ctl, I x2, I x3] false, .box [] true, .rows ((ys).map I) yg 1 false])) ?_ (m := (s.ls 8).length) ⟨0, rfl, Nat.zero_le _, .inl ⟨rfl, by kernel_rfl, by kernel_rfl⟩⟩ ?_
 rotate_left
 · omega
 rintro m7 fr σ ⟨i, h3, h4, ⟨h5, h6, rfl⟩ | ⟨ys, yg, yn, rfl, h5, h6, rfl⟩⟩ k h7
 ·
  rw [h6]; clear h6
  have hyl := flt_len h5
  obtain ⟨k, rfl⟩ : ∃ k', k = k' + 60 := ⟨k - 60, by omega⟩
  refine X.seq (X.region ?_)
  refine OK.dec (((i : Nat) : Int) < ((((s.ls 8).map I).length : Nat) : Int)) (by kernel_rfl) (by kernel_rfl) (fun h8 => ?_) (fun h8 => ?_)
  rotate_left
  ·
   refine OK.nil ?_
   refine X.seq (X.condF (by kernel_rfl) ?_)
   refine X.exit ?_
   show X _ _ _ _ _ _ _ _ _
   refine X.seq (X.region (OK.seg 2 (by kernel_rfl) (OK.nil ?_)))
   refine X.ret ?_
   exact ⟨rfl, giv (r := .list [] false) (by kernel_rfl) (by first | exact gr_wrong (by assumption) | exact gr_other (by omega) | exact gr_right (ys := []) (by assumption) (flt_all (by assumption) (by omega)))⟩
  refine OK.nil ?_
  refine X.seq (X.condT (by kernel_rfl) ?_)
  refine X.skip (X.seq (X.block (X.seq (X.region ?_))))
  refine OK.val (.ro [I (((s.ls 8).getD i 0))] 0) (by kernel_rfl) (fun _ => idx_map (sz := 1) (g := I) (d := 0) (xs := s.ls 8) (ex := false) (k := .i64) (n := ((i : Nat) : Int)) rfl Tryz.underlying23 (by kernel_rfl) (by kernel_rfl) (by kernel_rfl) (by kernel_rfl) (by first | omega | (have q := ids8 (by assumption) (by omega : i < _); omega)) (by first | omega | (have q := ids8 (by assumption) (by omega : i < _); omega))) ?_
  refine OK.seg 2 (by kernel_rfl) (OK.nil ?_)
  refine X.seq (X.draw (by kernel_rfl) (by kernel_rfl) (by kernel_rfl) ?_)
  refine DK.seg 3 (by kernel_rfl) ?_
  refine DK.val (.ro (cO ((s.objs).getD (((s.ls 8).getD i 0)).toNat o0)) 0) (by kernel_rfl) (fun _ => idx_map (sz := 18) (g := E) (d := o0) (xs := s.objs) (ex := false) (k := .i64) (n := (((s.ls 8).getD i 0))) rfl Tryz.underlying22 (by kernel_rfl) (by kernel_rfl) (by kernel_rfl) (by kernel_rfl) (by first | omega | (have q := ids8 (by assumption) (by omega : i < _); omega)) (by first | omega | (have q := ids8 (by assumption) (by omega : i < _); omega))) ?_
  refine DK.seg 4 (by kernel_rfl) ?_
  refine DK.dec ((((s.objs).getD (((s.ls 8).getD i 0)).toNat o0) 2) = ctl) (by kernel_rfl) (by kernel_rfl) (fun h9 => ?_) (fun h9 => ?_)
  ·
   refine DK.seg 1 (by kernel_rfl) (DK.nil ?_)
   refine X.seq (X.region (OK.seg 8 (by kernel_rfl) ?_))
   refine OK.ndec ((((s.ls 8).getD i 0)) = src) (by kernel_rfl) (by kernel_rfl) (fun h10 => ?_) (fun h10 => ?_)
   ·
    refine OK.seg 4 (by kernel_rfl) (OK.nil ?_)
    refine X.seq (X.region (OK.seg 8 (by kernel_rfl) (OK.nil ?_)))
    refine X.condF (by kernel_rfl) ?_
    refine X.skip (X.region ?_)
    refine OK.val (I ((i + 1 : Nat) : Int)) (by kernel_rfl) (fun _ => add_op (k := .i64) (a := ((i : Nat) : Int)) (b := 1) rfl (by kernel_rfl) (by kernel_rfl) (by rw [wrap64] <;> first | omega | (have q := ids8 (by assumption) (by omega : i < _); omega))) ?_
    refine OK.seg 1 (by kernel_rfl) (OK.nil ?_)
    have hsk := fun (q : ¬ (grPr s 2 ctl src) ((s.ls 8).getD i 0)) => fskip h5 (by omega) q
    have had := fun (q : (grPr s 2 ctl src) ((s.ls 8).getD i 0)) => fadd h5 (by omega) q
    exact ⟨([.agg (cS s), I 2, .agg [I src, I ctl, I x2, I x3], .ptr 0 0, undefA, .ptr 1 0, .list [] true, .list [] true, undefA, .opq, .opq, .opq, .agg (cS s), .nilIface, .bool false, .bool false, I 2, .bool false, .bool false, .bool false, I 2, .bool false, .bool false, .ptr 0 1, .ptr 0 9, .list ((s.ls 8).map I) false, I ((((s.ls 8).map I).length : Nat) : Int), I ((i + 1 : Nat) : Int)] ++ List.replicate 36 .opq ++ [undefA] : List AV), [.box (cS s) false, .box [I src, I ctl, I x2, I x3] false, .box [.bool true, .bool true, .bool false, .bool true] false], [0, 1, 0, 0], [[], [], []], by kernel_rfl, by kernel_rfl, by simp only [bS], by simp only [bS], by kernel_rfl, m7 - 1, by omega, i + 1, by omega, by omega, .inl ⟨hsk (by intro q; first | (exfalso; omega) | exact absurd q.1 (by assumption) | exact (show ¬ (rightS s ∧ cre s ((s.ls 8).getD i 0)) by assumption) ⟨by assumption, q.1⟩ | (have q2 := q.2; omega)), by kernel_rfl, by kernel_rfl⟩⟩
   refine OK.seg 4 (by kernel_rfl) (OK.nil ?_)
   refine X.seq (X.region (OK.seg 8 (by kernel_rfl) (OK.nil ?_)))
   refine X.condF (by kernel_rfl) ?_
   refine X.skip (X.region ?_)
   refine OK.val (I ((i + 1 : Nat) : Int)) (by kernel_rfl) (fun _ => add_op (k := .i64) (a := ((i : Nat) : Int)) (b := 1) rfl (by kernel_rfl) (by kernel_rfl) (by rw [wrap64] <;> first | omega | (have q := ids8 (by assumption) (by omega : i < _); omega))) ?_
   refine OK.seg 1 (by kernel_rfl) (OK.nil ?_)
   have hsk := fun (q : ¬ (grPr s 2 ctl src) ((s.ls 8).getD i 0)) => fskip h5 (by omega) q
   have had := fun (q : (grPr s 2 ctl src) ((s.ls 8).getD i 0)) => fadd h5 (by omega) q
   exact ⟨([.agg (cS s), I 2, .agg [I src, I ctl, I x2, I x3], .ptr 0 0, undefA, .ptr 1 0, .list [] true, .list [] true, undefA, .opq, .opq, .opq, .agg (cS s), .nilIface, .bool false, .bool false, I 2, .bool false, .bool false, .bool false, I 2, .bool false, .bool false, .ptr 0 1, .ptr 0 9, .list ((s.ls 8).map I) false, I ((((s.ls 8).map I).length : Nat) : Int), I ((i + 1 : Nat) : Int)] ++ List.replicate 36 .opq ++ [undefA] : List AV), [.box (cS s) false, .box [I src, I ctl, I x2, I x3] false, .box [.bool true, .bool true, .bool false, .bool false] false], [0, 1, 0, 0], [[], [], []], by kernel_rfl, by kernel_rfl, by simp only [bS], by simp only [bS], by kernel_rfl, m7 - 1, by omega, i + 1, by omega, by omega, .inl ⟨hsk (by intro q; first | (exfalso; omega) | exact absurd q.1 (by assumption) | exact (show ¬ (rightS s ∧ cre s ((s.ls 8).getD i 0)) by assumption) ⟨by assumption, q.1⟩ | (have q2 := q.2; omega)), by kernel_rfl, by kernel_rfl⟩⟩
  refine DK.seg 1 (by kernel_rfl) (DK.nil ?_)
  refine X.seq (X.region (OK.segE 13 ([.agg (cS s), I 2, .agg [I src, I ctl, I x2, I x3], .ptr 0 0, undefA, .ptr 1 0, .list [] true, .list [] true, undefA, I (((s.ls 8).getD i 0)), .bool false, .ptr 2 0, .agg (cS s), .nilIface, .bool false, .bool false, I 2, .bool false, .bool false, .bool false, I 2, .bool false, .bool false, .ptr 0 1, .ptr 0 9, .list ((s.ls 8).map I) false, I ((((s.ls 8).map I).length : Nat) : Int), I ((i : Nat) : Int), .bool true, .ro [I (((s.ls 8).getD i 0))] 0, I (((s.ls 8).getD i 0)), .ptr 0 0, .list ((s.objs).map E) false, I (((s.ls 8).getD i 0)), .ro (cO ((s.objs).getD (((s.ls 8).getD i 0)).toNat o0)) 0, .ro (cO ((s.objs).getD (((s.ls 8).getD i 0)).toNat o0)) 2, I (((s.objs).getD (((s.ls 8).getD i 0)).toNat o0) 2), .ptr 1 1, I ctl, .bool false, .bool false, .bool false, .bool true, .bool false, .bool false] ++ List.replicate 4 undefA ++ [.bool false, .agg [.bool true, .bool false, .bool true, .bool false]] ++ List.replicate 13 .opq ++ [undefA] : List AV) [.box (cS s) false, .box [I src, I ctl, I x2, I x3] false, .box [.bool true, .bool false, .bool true, .bool false] false] (by kernel_rfl) (OK.nil ?_)))
  refine X.seq (X.region (OK.seg 6 (by kernel_rfl) ?_))
  refine OK.rdP [.agg (cS s), I (((s.ls 8).getD i 0))] [.agg (cS s), I (((s.ls 8).getD i 0))] (rightS s ∧ cre s (((s.ls 8).getD i 0))) rfl (by kernel_rfl) rfl (by kernel_rfl) (by kernel_rfl) (by kernel_rfl) (by kernel_rfl) (by kernel_rfl) (Is_w _ _ _ _ hyp0 (by omega)) (fun h11 => ?_) (fun h11 => ?_)
  rotate_left
  ·
   refine OK.seg 1 (by kernel_rfl) (OK.nil ?_)
   refine X.condF (by kernel_rfl) ?_
   refine X.skip (X.region ?_)
   refine OK.val (I ((i + 1 : Nat) : Int)) (by kernel_rfl) (fun _ => add_op (k := .i64) (a := ((i : Nat) : Int)) (b := 1) rfl (by kernel_rfl) (by kernel_rfl) (by rw [wrap64] <;> first | omega | (have q := ids8 (by assumption) (by omega : i < _); omega))) ?_
   refine OK.seg 1 (by kernel_rfl) (OK.nil ?_)
   have hsk := fun (q : ¬ (grPr s 2 ctl src) ((s.ls 8).getD i 0)) => fskip h5 (by omega) q
   have had := fun (q : (grPr s 2 ctl src) ((s.ls 8).getD i 0)) => fadd h5 (by omega) q
   exact ⟨([.agg (cS s), I 2, .agg [I src, I ctl, I x2, I x3], .ptr 0 0, undefA, .ptr 1 0, .list [] true, .list [] true, undefA, .opq, .opq, .opq, .agg (cS s), .nilIface, .bool false, .bool false, I 2, .bool false, .bool false, .bool false, I 2, .bool false, .bool false, .ptr 0 1, .ptr 0 9, .list ((s.ls 8).map I) false, I ((((s.ls 8).map I).length : Nat) : Int), I ((i + 1 : Nat) : Int)] ++ List.replicate 36 .opq ++ [undefA] : List AV), [.box (cS s) false, .box [I src, I ctl, I x2, I x3] false, .box [.bool true, .bool false, .bool true, .bool false] false], [0, 1, 0, 0], [[], [], []], by kernel_rfl, by kernel_rfl, by simp only [bS], by simp only [bS], by kernel_rfl, m7 - 1, by omega, i + 1, by omega, by omega, .inl ⟨hsk (by intro q; first | (exfalso; omega) | exact absurd q.1 (by assumption) | exact (show ¬ (rightS s ∧ cre s ((s.ls 8).getD i 0)) by assumption) ⟨by assumption, q.1⟩ | (have q2 := q.2; omega)), by kernel_rfl, by kernel_rfl⟩⟩
  refine OK.seg 1 (by kernel_rfl) (OK.nil ?_)
  refine X.condT (by kernel_rfl) ?_
  refine X.region (OK.seg 5 (by kernel_rfl) (OK.nil ?_))
  refine X.region ?_
  refine OK.val (I ((i + 1 : Nat) : Int)) (by kernel_rfl) (fun _ => add_op (k := .i64) (a := ((i : Nat) : Int)) (b := 1) rfl (by kernel_rfl) (by kernel_rfl) (by rw [wrap64] <;> first | omega | (have q := ids8 (by assumption) (by omega : i < _); omega))) ?_
  refine OK.seg 1 (by kernel_rfl) (OK.nil ?_)
  have hsk := fun (q : ¬ (grPr s 2 ctl src) ((s.ls 8).getD i 0)) => fskip h5 (by omega) q
  have had := fun (q : (grPr s 2 ctl src) ((s.ls 8).getD i 0)) => fadd h5 (by omega) q
  exact ⟨([.agg (cS s), I 2, .agg [I src, I ctl, I x2, I x3], .ptr 0 0, undefA, .ptr 1 0, .list [] true, .sl 3 0 0 1, undefA, .opq, .opq, .opq, .agg (cS s), .nilIface, .bool false, .bool false, I 2, .bool false, .bool false, .bool false, I 2, .bool false, .bool false, .ptr 0 1, .ptr 0 9, .list ((s.ls 8).map I) false, I ((((s.ls 8).map I).length : Nat) : Int), I ((i + 1 : Nat) : Int)] ++ List.replicate 36 .opq ++ [undefA] : List AV), [.box (cS s) false, .box [I src, I ctl, I x2, I x3] false, .box [.bool true, .bool false, .bool true, .bool false] false, .rows (([(((s.ls 8).getD i 0))]).map I) 0 1 false], [0, 1, 3, 0, 0], [[], [], [], []], by kernel_rfl, by kernel_rfl, by simp only [bS], by simp only [bS], by kernel_rfl, m7 - 1, by omega, i + 1, by omega, by omega, .inr ⟨[(s.ls 8).getD i 0], 0, 1, rfl, had (by first | (exfalso; omega) | exact ⟨by first | assumption | exact (by assumption : _ ∧ _).2, by omega⟩), by kernel_rfl, by kernel_rfl⟩⟩
 ·
  rw [h6]; clear h6
  have hyl := flt_len h5
  obtain ⟨k, rfl⟩ : ∃ k', k = k' + 60 := ⟨k - 60, by omega⟩
  refine X.seq (X.region ?_)
  refine OK.dec (((i : Nat) : Int) < ((((s.ls 8).map I).length : Nat) : Int)) (by kernel_rfl) (by kernel_rfl) (fun h12 => ?_) (fun h12 => ?_)
  rotate_left
  ·
   refine OK.nil ?_
   refine X.seq (X.condF (by kernel_rfl) ?_)
   refine X.exit ?_
   show X _ _ _ _ _ _ _ _ _
   refine X.seq (X.region (OK.seg 2 (by kernel_rfl) (OK.nil ?_)))
   refine X.ret ?_
   exact ⟨rfl, giv (gives_sl (g := I) (fun _ _ => rfl) (fun _ => rfl) (b := 3) (n := yg) (ys := ys) (sz := 1) (by kernel_rfl) (by kernel_rfl)) (by first | exact gr_wrong (by assumption) | exact gr_other (by omega) | exact gr_right (ys := ys) (by assumption) (flt_all (by assumption) (by omega)))⟩
  refine OK.nil ?_
  refine X.seq (X.condT (by kernel_rfl) ?_)
  refine X.skip (X.seq (X.block (X.seq (X.region ?_))))
  refine OK.val (.ro [I (((s.ls 8).getD i 0))] 0) (by kernel_rfl) (fun _ => idx_map (sz := 1) (g := I) (d := 0) (xs := s.ls 8) (ex := false) (k := .i64) (n := ((i : Nat) : Int)) rfl Tryz.underlying23 (by kernel_rfl) (by kernel_rfl) (by kernel_rfl) (by kernel_rfl) (by first | omega | (have q := ids8 (by assumption) (by omega : i < _); omega)) (by first | omega | (have q := ids8 (by assumption) (by omega : i < _); omega))) ?_
  refine OK.seg 2 (by kernel_rfl) (OK.nil ?_)
  refine X.seq (X.draw (by kernel_rfl) (by kernel_rfl) (by kernel_rfl) ?_)
  refine DK.seg 3 (by kernel_rfl) ?_
  refine DK.val (.ro (cO ((s.objs).getD (((s.ls 8).getD i 0)).toNat o0)) 0) (by kernel_rfl) (fun _ => idx_map (sz := 18) (g := E) (d := o0) (xs := s.objs) (ex := false) (k := .i64) (n := (((s.ls 8).getD i 0))) rfl Tryz.underlying22 (by kernel_rfl) (by kernel_rfl) (by kernel_rfl) (by kernel_rfl) (by first | omega | (have q := ids8 (by assumption) (by omega : i < _); omega)) (by first | omega | (have q := ids8 (by assumption) (by omega : i < _); omega))) ?_
  refine DK.seg 4 (by kernel_rfl) ?_
  refine DK.dec ((((s.objs).getD (((s.ls 8).getD i 0)).toNat o0) 2) = ctl) (by kernel_rfl) (by kernel_rfl) (fun h13 => ?_) (fun h13 => ?_)
  ·
   refine DK.seg 1 (by kernel_rfl) (DK.nil ?_)
   refine X.seq (X.region (OK.seg 8 (by kernel_rfl) ?_))
   refine OK.ndec ((((s.ls 8).getD i 0)) = src) (by kernel_rfl) (by kernel_rfl) (fun h14 => ?_) (fun h14 => ?_)
   ·
    refine OK.seg 4 (by kernel_rfl) (OK.nil ?_)
    refine X.seq (X.region (OK.seg 8 (by kernel_rfl) (OK.nil ?_)))
    refine X.condF (by kernel_rfl) ?_
    refine X.skip (X.region ?_)
    refine OK.val (I ((i + 1 : Nat) : Int)) (by kernel_rfl) (fun _ => add_op (k := .i64) (a := ((i : Nat) : Int)) (b := 1) rfl (by kernel_rfl) (by kernel_rfl) (by rw [wrap64] <;> first | omega | (have q := ids8 (by assumption) (by omega : i < _); omega))) ?_
    refine OK.seg 1 (by kernel_rfl) (OK.nil ?_)
    have hsk := fun (q : ¬ (grPr s 2 ctl src) ((s.ls 8).getD i 0)) => fskip h5 (by omega) q
    have had := fun (q : (grPr s 2 ctl src) ((s.ls 8).getD i 0)) => fadd h5 (by omega) q
    exact ⟨([.agg (cS s), I 2, .agg [I src, I ctl, I x2, I x3], .ptr 0 0, undefA, .ptr 1 0, .list [] true, .sl 3 yg 0 ys.length, undefA, .opq, .opq, .opq, .agg (cS s), .nilIface, .bool false, .bool false, I 2, .bool false, .bool false, .bool false, I 2, .bool false, .bool false, .ptr 0 1, .ptr 0 9, .list ((s.ls 8).map I) false, I ((((s.ls 8).map I).length : Nat) : Int), I ((i + 1 : Nat) : Int)] ++ List.replicate 36 .opq ++ [undefA] : List AV), [.box (cS s) false, .box [I src, I ctl, I x2, I x3] false, .box [] true, .rows ((ys).map I) yg 1 false, .box [.bool true, .bool true, .bool false, .bool true] false], [0, 1, 3, 0, 0], [[], [], [], [], []], by kernel_rfl, by kernel_rfl, by simp only [bS], by simp only [bS], by kernel_rfl, m7 - 1, by omega, i + 1, by omega, by omega, .inr ⟨ys, yg, ys.length, rfl, hsk (by intro q; first | (exfalso; omega) | exact absurd q.1 (by assumption) | exact (show ¬ (rightS s ∧ cre s ((s.ls 8).getD i 0)) by assumption) ⟨by assumption, q.1⟩ | (have q2 := q.2; omega)), by kernel_rfl, by kernel_rfl⟩⟩
   refine OK.seg 4 (by kernel_rfl) (OK.nil ?_)
   refine X.seq (X.region (OK.seg 8 (by kernel_rfl) (OK.nil ?_)))
   refine X.condF (by kernel_rfl) ?_
   refine X.skip (X.region ?_)
   refine OK.val (I ((i + 1 : Nat) : Int)) (by kernel_rfl) (fun _ => add_op (k := .i64) (a := ((i : Nat) : Int)) (b := 1) rfl (by kernel_rfl) (by kernel_rfl) (by rw [wrap64] <;> first | omega | (have q := ids8 (by assumption) (by omega : i < _); omega))) ?_
   refine OK.seg 1 (by kernel_rfl) (OK.nil ?_)
   have hsk := fun (q : ¬ (grPr s 2 ctl src) ((s.ls 8).getD i 0)) => fskip h5 (by omega) q
   have had := fun (q : (grPr s 2 ctl src) ((s.ls 8).getD i 0)) => fadd h5 (by omega) q
   exact ⟨([.agg (cS s), I 2, .agg [I src, I ctl, I x2, I x3], .ptr 0 0, undefA, .ptr 1 0, .list [] true, .sl 3 yg 0 ys.length, undefA, .opq, .opq, .opq, .agg (cS s), .nilIface, .bool false, .bool false, I 2, .bool false, .bool false, .bool false, I 2, .bool false, .bool false, .ptr 0 1, .ptr 0 9, .list ((s.ls 8).map I) false, I ((((s.ls 8).map I).length : Nat) : Int), I ((i + 1 : Nat) : Int)] ++ List.replicate 36 .opq ++ [undefA] : List AV), [.box (cS s) false, .box [I src, I ctl, I x2, I x3] false, .box [] true, .rows ((ys).map I) yg 1 false, .box [.bool true, .bool true, .bool false, .bool false] false], [0, 1, 3, 0, 0], [[], [], [], [], []], by kernel_rfl, by kernel_rfl, by simp only [bS], by simp only [bS], by kernel_rfl, m7 - 1, by omega, i + 1, by omega, by omega, .inr ⟨ys, yg, ys.length, rfl, hsk (by intro q; first | (exfalso; omega) | exact absurd q.1 (by assumption) | exact (show ¬ (rightS s ∧ cre s ((s.ls 8).getD i 0)) by assumption) ⟨by assumption, q.1⟩ | (have q2 := q.2; omega)), by kernel_rfl, by kernel_rfl⟩⟩
  refine DK.seg 1 (by kernel_rfl) (DK.nil ?_)
  refine X.seq (X.region (OK.segE 13 ([.agg (cS s), I 2, .agg [I src, I ctl, I x2, I x3], .ptr 0 0, undefA, .ptr 1 0, .list [] true, .sl 3 yg 0 ys.length, undefA, I (((s.ls 8).getD i 0)), .bool false, .ptr 4 0, .agg (cS s), .nilIface, .bool false, .bool false, I 2, .bool false, .bool false, .bool false, I 2, .bool false, .bool false, .ptr 0 1, .ptr 0 9, .list ((s.ls 8).map I) false, I ((((s.ls 8).map I).length : Nat) : Int), I ((i : Nat) : Int), .bool true, .ro [I (((s.ls 8).getD i 0))] 0, I (((s.ls 8).getD i 0)), .ptr 0 0, .list ((s.objs).map E) false, I (((s.ls 8).getD i 0)), .ro (cO ((s.objs).getD (((s.ls 8).getD i 0)).toNat o0)) 0, .ro (cO ((s.objs).getD (((s.ls 8).getD i 0)).toNat o0)) 2, I (((s.objs).getD (((s.ls 8).getD i 0)).toNat o0) 2), .ptr 1 1, I ctl, .bool false, .bool false, .bool false, .bool true, .bool false, .bool false] ++ List.replicate 4 undefA ++ [.bool false, .agg [.bool true, .bool false, .bool true, .bool false]] ++ List.replicate 13 .opq ++ [undefA] : List AV) [.box (cS s) false, .box [I src, I ctl, I x2, I x3] false, .box [] true, .rows ((ys).map I) yg 1 false, .box [.bool true, .bool false, .bool true, .bool false] false] (by kernel_rfl) (OK.nil ?_)))
  refine X.seq (X.region (OK.seg 6 (by kernel_rfl) ?_))
  refine OK.rdP [.agg (cS s), I (((s.ls 8).getD i 0))] [.agg (cS s), I (((s.ls 8).getD i 0))] (rightS s ∧ cre s (((s.ls 8).getD i 0))) rfl (by kernel_rfl) rfl (by kernel_rfl) (by kernel_rfl) (by kernel_rfl) (by kernel_rfl) (by kernel_rfl) (Is_w _ _ _ _ hyp0 (by omega)) (fun h15 => ?_) (fun h15 => ?_)
  rotate_left
  ·
   refine OK.seg 1 (by kernel_rfl) (OK.nil ?_)
   refine X.condF (by kernel_rfl) ?_
   refine X.skip (X.region ?_)
   refine OK.val (I ((i + 1 : Nat) : Int)) (by kernel_rfl) (fun _ => add_op (k := .i64) (a := ((i : Nat) : Int)) (b := 1) rfl (by kernel_rfl) (by kernel_rfl) (by rw [wrap64] <;> first | omega | (have q := ids8 (by assumption) (by omega : i < _); omega))) ?_
   refine OK.seg 1 (by kernel_rfl) (OK.nil ?_)
   have hsk := fun (q : ¬ (grPr s 2 ctl src) ((s.ls 8).getD i 0)) => fskip h5 (by omega) q
   have had := fun (q : (grPr s 2 ctl src) ((s.ls 8).getD i 0)) => fadd h5 (by omega) q
   exact ⟨([.agg (cS s), I 2, .agg [I src, I ctl, I x2, I x3], .ptr 0 0, undefA, .ptr 1 0, .list [] true, .sl 3 yg 0 ys.length, undefA, .opq, .opq, .opq, .agg (cS s), .nilIface, .bool false, .bool false, I 2, .bool false, .bool false, .bool false, I 2, .bool false, .bool false, .ptr 0 1, .ptr 0 9, .list ((s.ls 8).map I) false, I ((((s.ls 8).map I).length : Nat) : Int), I ((i + 1 : Nat) : Int)] ++ List.replicate 36 .opq ++ [undefA] : List AV), [.box (cS s) false, .box [I src, I ctl, I x2, I x3] false, .box [] true, .rows ((ys).map I) yg 1 false, .box [.bool true, .bool false, .bool true, .bool false] false], [0, 1, 3, 0, 0], [[], [], [], [], []], by kernel_rfl, by kernel_rfl, by simp only [bS], by simp only [bS], by kernel_rfl, m7 - 1, by omega, i + 1, by omega, by omega, .inr ⟨ys, yg, ys.length, rfl, hsk (by intro q; first | (exfalso; omega) | exact absurd q.1 (by assumption) | exact (show ¬ (rightS s ∧ cre s ((s.ls 8).getD i 0)) by assumption) ⟨by assumption, q.1⟩ | (have q2 := q.2; omega)), by kernel_rfl, by kernel_rfl⟩⟩
  refine OK.seg 1 (by kernel_rfl) (OK.nil ?_)
  refine X.condT (by kernel_rfl) ?_
  refine X.region (OK.seg 3 (by kernel_rfl) ?_)
  refine OK.opS (.sl 3 (yg + 1) 0 (ys.length + 1)) [.box (cS s) false, .box [I src, I ctl, I x2, I x3] false, .box [] true, .rows (((ys) ++ [(((s.ls 8).getD i 0))]).map I) (yg + 1) 1 false, .box [.bool true, .bool false, .bool true, .bool false] false] (by kernel_rfl) (ap_sl (b := 3) (n := yg) (ex := true) (g := I) (ys := ys) (v := (((s.ls 8).getD i 0))) rfl rfl rfl rfl Tryz.underlying23 Tryz.underlying23 (by kernel_rfl) (by_ := 8) (by kernel_rfl) (z := I 0) (by kernel_rfl) rfl (by omega) (fun _ => rfl) (fun _ => rfl) (by kernel_rfl) (by kernel_rfl) (Nat.zero_le _) (ap_bd (by omega)) (by kernel_rfl)) ?_
  refine OK.seg 1 (by kernel_rfl) (OK.nil ?_)
  refine X.region ?_
  refine OK.val (I ((i + 1 : Nat) : Int)) (by kernel_rfl) (fun _ => add_op (k := .i64) (a := ((i : Nat) : Int)) (b := 1) rfl (by kernel_rfl) (by kernel_rfl) (by rw [wrap64] <;> first | omega | (have q := ids8 (by assumption) (by omega : i < _); omega))) ?_
  refine OK.seg 1 (by kernel_rfl) (OK.nil ?_)
  have hsk := fun (q : ¬ (grPr s 2 ctl src) ((s.ls 8).getD i 0)) => fskip h5 (by omega) q
  have had := fun (q : (grPr s 2 ctl src) ((s.ls 8).getD i 0)) => fadd h5 (by omega) q
  exact ⟨([.agg (cS s), I 2, .agg [I src, I ctl, I x2, I x3], .ptr 0 0, undefA, .ptr 1 0, .list [] true, .sl 3 (yg + 1) 0 (ys.length + 1), undefA, .opq, .opq, .opq, .agg (cS s), .nilIface, .bool false, .bool false, I 2, .bool false, .bool false, .bool false, I 2, .bool false, .bool false, .ptr 0 1, .ptr 0 9, .list ((s.ls 8).map I) false, I ((((s.ls 8).map I).length : Nat) : Int), I ((i + 1 : Nat) : Int)] ++ List.replicate 36 .opq ++ [undefA] : List AV), [.box (cS s) false, .box [I src, I ctl, I x2, I x3] false, .box [] true, .rows (((ys) ++ [(((s.ls 8).getD i 0))]).map I) (yg + 1) 1 false, .box [.bool true, .bool false, .bool true, .bool false] false], [0, 1, 3, 0, 0], [[], [], [], [], []], by kernel_rfl, by kernel_rfl, by simp only [bS], by simp only [bS], by kernel_rfl, m7 - 1, by omega, i + 1, by omega, by omega, .inr ⟨ys ++ [(s.ls 8).getD i 0], yg + 1, ys.length + 1, by simp, had (by first | (exfalso; omega) | exact ⟨by first | assumption | exact (by assumption : _ ∧ _).2, by omega⟩), by kernel_rfl, by kernel_rfl⟩⟩

set_option maxHeartbeats 1000000 in
theorem Group_3 : ∀ k (s : St) (src ctl x2 x3 : Int) σ, wf s → 1000000 ≤ k → readW (callW Tryz.prog (exec Tryz.prog cfg k)) 13 [.agg (cS s), I 3, .agg [I src, I ctl, I x2, I x3]] σ = some (.list ((grL s 3 ctl src).map I) false, σ) := by
 intro k s src ctl x2 x3 σ hyp0 hk
 obtain ⟨k, rfl⟩ : ∃ k', k = k' + 60 := ⟨k - 60, by omega⟩
 have hw1 := hyp0.1
 have hw2 := hyp0.2
 have hlm : ((s.objs).map E).length = s.objs.length := List.length_map _
 have hll : ∀ z, ((s.ls z).map I).length = (s.ls z).length := fun z => List.length_map _
 have hl8 := hll 8; have hw8 := hw2 8
 refine reader_of Tryz.func13 rfl (by simp only [AV.frees, AV.free, fr_I, fr_E, fr_cO, fr_cL, fr_cS, Bool.and_self]) ?_
 refine X.seq (X.region (OK.seg 3 (by kernel_rfl) (OK.nil ?_)))
 refine X.seq (X.seq (X.region (OK.seg 1 (by kernel_rfl) ?_)))
 refine OK.rd [.agg (cS s)] [.agg (cS s)] (errS s) rfl (by kernel_rfl) rfl (by kernel_rfl) (by kernel_rfl) (by kernel_rfl) (by kernel_rfl) (by kernel_rfl) (Check_w _ _ _ hyp0 (by omega)) ?_
 rcases errS_cases s with ⟨hRh1, heh1⟩ | ⟨hRh1, vh1, heh1⟩ <;> rw [heh1]
 rotate_left
 ·
  refine OK.seg 9 (by kernel_rfl) (OK.nil ?_)
  refine X.condT (by kernel_rfl) ?_
  refine X.seq (X.region (OK.seg 1 (by kernel_rfl) (OK.nil ?_)))
  refine X.ret ?_
  exact ⟨rfl, giv (r := .list [] false) (by kernel_rfl) (by first | exact gr_wrong (by assumption) | exact gr_other (by omega) | exact gr_right (ys := []) (by assumption) (flt_all (by assumption) (by omega)))⟩
 refine OK.seg 9 (by kernel_rfl) (OK.nil ?_)
 refine X.condF (by kernel_rfl) ?_
 refine X.skip (X.seq (X.region (OK.seg 1 (by kernel_rfl) (OK.nil ?_))))
 refine X.seq (X.seq (X.region (OK.seg 5 (by kernel_rfl) (OK.nil ?_))))
 refine X.block ?_
 refine X.rounds3 (K := 600000) [9, 10, 11, 28, 29, 30, 31, 32, 33, 34, 35, 36, 37, 38, 39, 40, 41, 42, 43, 44, 45, 46, 47, 48, 49, 50, 51, 52, 53, 54, 55, 56, 57, 58, 59, 60, 61, 62, 63] (by kernel_rfl) rfl (fun m fr σ => ∃ i : Nat, m = (s.ls 8).length - i ∧ i ≤ (s.ls 8).length ∧ ((flt (grPr s 3 ctl src) ((s.ls 8).take i) = [] ∧ clearA' [9, 10, 11, 28, 29, 30, 31, 32, 33, 34, 35, 36, 37, 38, 39, 40, 41, 42, 43, 44, 45, 46, 47, 48, 49, 50, 51, 52, 53, 54, 55, 56, 57, 58, 59, 60, 61, 62, 63] fr = ([.agg (cS s), I 3, .agg [I src, I ctl, I x2, I x3], .ptr 0 0, undefA, .ptr 1 0, .list [] true, .list [] true, undefA, .opq, .opq, .opq, .agg (cS s), .nilIface, .bool false, .bool false, I 3, .bool false, .bool false, .bool false, I 3, .bool false, .bool false, .ptr 0 1, .ptr 0 9, .list ((s.ls 8).map I) false, I ((((s.ls 8).map I).length : Nat) : Int), I ((i : Nat) : Int)] ++ List.replicate 36 .opq ++ [undefA] : List AV) ∧ σ = [.box (cS s) false, .box [I src, I ctl, I x2, I x3] false]) ∨ ∃ (ys : List Int) (yg yn : Nat), yn = ys.length ∧ flt (grPr s 3 ctl src) ((s.ls 8).take i) = ys ∧ clearA' [9, 10, 11, 28, 29, 30, 31, 32, 33, 34, 35, 36, 37, 38, 39, 40, 41, 42, 43, 44, 45, 46, 47, 48, 49, 50, 51, 52, 53, 54, 55, 56, 57, 58, 59, 60, 61, 62, 63] fr = ([.agg (cS s), I 3, .agg [I src, I ctl, I x2, I x3], .ptr 0 0, undefA, .ptr 1 0, .list [] true, .sl 3 yg 0 yn, undefA, .opq, .opq, .opq, .agg (cS s), .nilIface, .bool false, .bool false, I 3, .bool false, .bool false, .bool false, I 3, .bool false, .bool false, .ptr 0 1, .ptr 0 9, .list ((s.ls 8).map I) false, I ((((s.ls 8).map I).length : Nat) : Int), I ((i : Nat) : Int)] ++ List.replicate 36 .opq ++ [undefA] : List AV) ∧ σ = [.box (cS s) false, .box [I src, I ctl, I x2, I x3] false, .box [] true, .rows ((ys).map I) yg 1 false])) ?_ (m := (s.ls 8).length) ⟨0, rfl, Nat.zero_le _, .inl ⟨rfl, by kernel_rfl, by kernel_rfl⟩⟩ ?_
 rotate_left
 · omega
 rintro m7 fr σ ⟨i, h3, h4, ⟨h5, h6, rfl⟩ | ⟨ys, yg, yn, rfl, h5, h6, rfl⟩⟩ k h7
 ·
  rw [h6]; clear h6
  have hyl := flt_len h5
  obtain ⟨k, rfl⟩ : ∃ k', k = k' + 60 := ⟨k - 60, by omega⟩
  refine X.seq (X.region ?_)
  refine OK.dec (((i : Nat) : Int) < ((((s.ls 8).map I).length : Nat) : Int)) (by kernel_rfl) (by kernel_rfl) (fun h8 => ?_) (fun h8 => ?_)
  rotate_left
  ·
   refine OK.nil ?_
   refine X.seq (X.condF (by kernel_rfl) ?_)
   refine X.exit ?_
   show X _ _ _ _ _ _ _ _ _
   refine X.seq (X.region (OK.seg 2 (by kernel_rfl) (OK.nil ?_)))
   refine X.ret ?_
   exact ⟨rfl, giv (r := .list [] false) (by kernel_rfl) (by first | exact gr_wrong (by assumption) | exact gr_other (by omega) | exact gr_right (ys := []) (by assumption) (flt_all (by assumption) (by omega)))⟩
  refine OK.nil ?_
  refine X.seq (X.condT (by kernel_rfl) ?_)
  refine X.skip (X.seq (X.block (X.seq (X.region ?_))))
  refine OK.val (.ro [I (((s.ls 8).getD i 0))] 0) (by kernel_rfl) (fun _ => idx_map (sz := 1) (g := I) (d := 0) (xs := s.ls 8) (ex := false) (k := .i64) (n := ((i : Nat) : Int)) rfl Tryz.underlying23 (by kernel_rfl) (by kernel_rfl) (by kernel_rfl) (by kernel_rfl) (by first | omega | (have q := ids8 (by assumption) (by omega : i < _); omega)) (by first | omega | (have q := ids8 (by assumption) (by omega : i < _); omega))) ?_
  refine OK.seg 2 (by kernel_rfl) (OK.nil ?_)
  refine X.seq (X.draw (by kernel_rfl) (by kernel_rfl) (by kernel_rfl) ?_)
  refine DK.seg 3 (by kernel_rfl) ?_
  refine DK.val (.ro (cO ((s.objs).getD (((s.ls 8).getD i 0)).toNat o0)) 0) (by kernel_rfl) (fun _ => idx_map (sz := 18) (g := E) (d := o0) (xs := s.objs) (ex := false) (k := .i64) (n := (((s.ls 8).getD i 0))) rfl Tryz.underlying22 (by kernel_rfl) (by kernel_rfl) (by kernel_rfl) (by kernel_rfl) (by first | omega | (have q := ids8 (by assumption) (by omega : i < _); omega)) (by first | omega | (have q := ids8 (by assumption) (by omega : i < _); omega))) ?_
  refine DK.seg 4 (by kernel_rfl) ?_
  refine DK.dec ((((s.objs).getD (((s.ls 8).getD i 0)).toNat o0) 2) = ctl) (by kernel_rfl) (by kernel_rfl) (fun h9 => ?_) (fun h9 => ?_)
  rotate_left
  ·
   refine DK.seg 1 (by kernel_rfl) (DK.nil ?_)
   refine X.seq (X.region (OK.segE 13 ([.agg (cS s), I 3, .agg [I src, I ctl, I x2, I x3], .ptr 0 0, undefA, .ptr 1 0, .list [] true, .list [] true, undefA, I (((s.ls 8).getD i 0)), .bool false, .ptr 2 0, .agg (cS s), .nilIface, .bool false, .bool false, I 3, .bool false, .bool false, .bool false, I 3, .bool false, .bool false, .ptr 0 1, .ptr 0 9, .list ((s.ls 8).map I) false, I ((((s.ls 8).map I).length : Nat) : Int), I ((i : Nat) : Int), .bool true, .ro [I (((s.ls 8).getD i 0))] 0, I (((s.ls 8).getD i 0)), .ptr 0 0, .list ((s.objs).map E) false, I (((s.ls 8).getD i 0)), .ro (cO ((s.objs).getD (((s.ls 8).getD i 0)).toNat o0)) 0, .ro (cO ((s.objs).getD (((s.ls 8).getD i 0)).toNat o0)) 2, I (((s.objs).getD (((s.ls 8).getD i 0)).toNat o0) 2), .ptr 1 1, I ctl, .bool false, .bool false, .bool false, .bool true, .bool false, .bool false] ++ List.replicate 4 undefA ++ [.bool false, .agg [.bool true, .bool false, .bool true, .bool false]] ++ List.replicate 13 .opq ++ [undefA] : List AV) [.box (cS s) false, .box [I src, I ctl, I x2, I x3] false, .box [.bool true, .bool false, .bool true, .bool false] false] (by kernel_rfl) (OK.nil ?_)))
   refine X.seq (X.region (OK.seg 8 (by kernel_rfl) (OK.nil ?_)))
   refine X.condF (by kernel_rfl) ?_
   refine X.skip (X.region ?_)
   refine OK.val (I ((i + 1 : Nat) : Int)) (by kernel_rfl) (fun _ => add_op (k := .i64) (a := ((i : Nat) : Int)) (b := 1) rfl (by kernel_rfl) (by kernel_rfl) (by rw [wrap64] <;> first | omega | (have q := ids8 (by assumption) (by omega : i < _); omega))) ?_
   refine OK.seg 1 (by kernel_rfl) (OK.nil ?_)
   have hsk := fun (q : ¬ (grPr s 3 ctl src) ((s.ls 8).getD i 0)) => fskip h5 (by omega) q
   have had := fun (q : (grPr s 3 ctl src) ((s.ls 8).getD i 0)) => fadd h5 (by omega) q
   exact ⟨([.agg (cS s), I 3, .agg [I src, I ctl, I x2, I x3], .ptr 0 0, undefA, .ptr 1 0, .list [] true, .list [] true, undefA, .opq, .opq, .opq, .agg (cS s), .nilIface, .bool false, .bool false, I 3, .bool false, .bool false, .bool false, I 3, .bool false, .bool false, .ptr 0 1, .ptr 0 9, .list ((s.ls 8).map I) false, I ((((s.ls 8).map I).length : Nat) : Int), I ((i + 1 : Nat) : Int)] ++ List.replicate 36 .opq ++ [undefA] : List AV), [.box (cS s) false, .box [I src, I ctl, I x2, I x3] false, .box [.bool true, .bool false, .bool true, .bool false] false], [0, 1, 0, 0], [[], [], []], by kernel_rfl, by kernel_rfl, by simp only [bS], by simp only [bS], by kernel_rfl, m7 - 1, by omega, i + 1, by omega, by omega, .inl ⟨hsk (by intro q; first | (exfalso; omega) | exact absurd q.1 (by assumption) | exact (show ¬ (rightS s ∧ cre s ((s.ls 8).getD i 0)) by assumption) ⟨by assumption, q.1⟩ | (have q2 := q.2; omega)), by kernel_rfl, by kernel_rfl⟩⟩
  refine DK.seg 1 (by kernel_rfl) (DK.nil ?_)
  refine X.seq (X.region (OK.seg 8 (by kernel_rfl) ?_))
  refine OK.ndec ((((s.ls 8).getD i 0)) = src) (by kernel_rfl) (by kernel_rfl) (fun h10 => ?_) (fun h10 => ?_)
  rotate_left
  ·
   refine OK.seg 4 (by kernel_rfl) (OK.nil ?_)
   refine X.seq (X.region (OK.seg 8 (by kernel_rfl) (OK.nil ?_)))
   refine X.condF (by kernel_rfl) ?_
   refine X.skip (X.region ?_)
   refine OK.val (I ((i + 1 : Nat) : Int)) (by kernel_rfl) (fun _ => add_op (k := .i64) (a := ((i : Nat) : Int)) (b := 1) rfl (by kernel_rfl) (by kernel_rfl) (by rw [wrap64] <;> first | omega | (have q := ids8 (by assumption) (by omega : i < _); omega))) ?_
   refine OK.seg 1 (by kernel_rfl) (OK.nil ?_)
   have hsk := fun (q : ¬ (grPr s 3 ctl src) ((s.ls 8).getD i 0)) => fskip h5 (by omega) q
   have had := fun (q : (grPr s 3 ctl src) ((s.ls 8).getD i 0)) => fadd h5 (by omega) q
   exact ⟨([.agg (cS s), I 3, .agg [I src, I ctl, I x2, I x3], .ptr 0 0, undefA, .ptr 1 0, .list [] true, .list [] true, undefA, .opq, .opq, .opq, .agg (cS s), .nilIface, .bool false, .bool false, I 3, .bool false, .bool false, .bool false, I 3, .bool false, .bool false, .ptr 0 1, .ptr 0 9, .list ((s.ls 8).map I) false, I ((((s.ls 8).map I).length : Nat) : Int), I ((i + 1 : Nat) : Int)] ++ List.replicate 36 .opq ++ [undefA] : List AV), [.box (cS s) false, .box [I src, I ctl, I x2, I x3] false, .box [.bool true, .bool true, .bool false, .bool false] false], [0, 1, 0, 0], [[], [], []], by kernel_rfl, by kernel_rfl, by simp only [bS], by simp only [bS], by kernel_rfl, m7 - 1, by omega, i + 1, by omega, by omega, .inl ⟨hsk (by intro q; first | (exfalso; omega) | exact absurd q.1 (by assumption) | exact (show ¬ (rightS s ∧ cre s ((s.ls 8).getD i 0)) by assumption) ⟨by assumption, q.1⟩ | (have q2 := q.2; omega)), by kernel_rfl, by kernel_rfl⟩⟩
  refine OK.seg 4 (by kernel_rfl) (OK.nil ?_)
  refine X.seq (X.region (OK.seg 6 (by kernel_rfl) ?_))
  refine OK.rdP [.agg (cS s), I (((s.ls 8).getD i 0))] [.agg (cS s), I (((s.ls 8).getD i 0))] (rightS s ∧ cre s (((s.ls 8).getD i 0))) rfl (by kernel_rfl) rfl (by kernel_rfl) (by kernel_rfl) (by kernel_rfl) (by kernel_rfl) (by kernel_rfl) (Is_w _ _ _ _ hyp0 (by omega)) (fun h11 => ?_) (fun h11 => ?_)
  rotate_left
  ·
   refine OK.seg 1 (by kernel_rfl) (OK.nil ?_)
   refine X.condF (by kernel_rfl) ?_
   refine X.skip (X.region ?_)
   refine OK.val (I ((i + 1 : Nat) : Int)) (by kernel_rfl) (fun _ => add_op (k := .i64) (a := ((i : Nat) : Int)) (b := 1) rfl (by kernel_rfl) (by kernel_rfl) (by rw [wrap64] <;> first | omega | (have q := ids8 (by assumption) (by omega : i < _); omega))) ?_
   refine OK.seg 1 (by kernel_rfl) (OK.nil ?_)
   have hsk := fun (q : ¬ (grPr s 3 ctl src) ((s.ls 8).getD i 0)) => fskip h5 (by omega) q
   have had := fun (q : (grPr s 3 ctl src) ((s.ls 8).getD i 0)) => fadd h5 (by omega) q
   exact ⟨([.agg (cS s), I 3, .agg [I src, I ctl, I x2, I x3], .ptr 0 0, undefA, .ptr 1 0, .list [] true, .list [] true, undefA, .opq, .opq, .opq, .agg (cS s), .nilIface, .bool false, .bool false, I 3, .bool false, .bool false, .bool false, I 3, .bool false, .bool false, .ptr 0 1, .ptr 0 9, .list ((s.ls 8).map I) false, I ((((s.ls 8).map I).length : Nat) : Int), I ((i + 1 : Nat) : Int)] ++ List.replicate 36 .opq ++ [undefA] : List AV), [.box (cS s) false, .box [I src, I ctl, I x2, I x3] false, .box [.bool true, .bool true, .bool false, .bool true] false], [0, 1, 0, 0], [[], [], []], by kernel_rfl, by kernel_rfl, by simp only [bS], by simp only [bS], by kernel_rfl, m7 - 1, by omega, i + 1, by omega, by omega, .inl ⟨hsk (by intro q; first | (exfalso; omega) | exact absurd q.1 (by assumption) | exact (show ¬ (rightS s ∧ cre s ((s.ls 8).getD i 0)) by assumption) ⟨by assumption, q.1⟩ | (have q2 := q.2; omega)), by kernel_rfl, by kernel_rfl⟩⟩
  refine OK.seg 1 (by kernel_rfl) (OK.nil ?_)
  refine X.condT (by kernel_rfl) ?_
  refine X.region (OK.seg 5 (by kernel_rfl) (OK.nil ?_))
  refine X.region ?_
  refine OK.val (I ((i + 1 : Nat) : Int)) (by kernel_rfl) (fun _ => add_op (k := .i64) (a := ((i : Nat) : Int)) (b := 1) rfl (by kernel_rfl) (by kernel_rfl) (by rw [wrap64] <;> first | omega | (have q := ids8 (by assumption) (by omega : i < _); omega))) ?_
  refine OK.seg 1 (by kernel_rfl) (OK.nil ?_)
  have hsk := fun (q : ¬ (grPr s 3 ctl src) ((s.ls 8).getD i 0)) => fskip h5 (by omega) q
  have had := fun (q : (grPr s 3 ctl src) ((s.ls 8).getD i 0)) => fadd h5 (by omega) q
  exact ⟨([.agg (cS s), I 3, .agg [I src, I ctl, I x2, I x3], .ptr 0 0, undefA, .ptr 1 0, .list [] true, .sl 3 0 0 1, undefA, .opq, .opq, .opq, .agg (cS s), .nilIface, .bool false, .bool false, I 3, .bool false, .bool false, .bool false, I 3, .bool false, .bool false, .ptr 0 1, .ptr 0 9, .list ((s.ls 8).map I) false, I ((((s.ls 8).map I).length : Nat) : Int), I ((i + 1 : Nat) : Int)] ++ List.replicate 36 .opq ++ [undefA] : List AV), [.box (cS s) false, .box [I src, I ctl, I x2, I x3] false, .box [.bool true, .bool true, .bool false, .bool true] false, .rows (([(((s.ls 8).getD i 0))]).map I) 0 1 false], [0, 1, 3, 0, 0], [[], [], [], []], by kernel_rfl, by kernel_rfl, by simp only [bS], by simp only [bS], by kernel_rfl, m7 - 1, by omega, i + 1, by omega, by omega, .inr ⟨[(s.ls 8).getD i 0], 0, 1, rfl, had (by first | (exfalso; omega) | exact ⟨by first | assumption | exact (by assumption : _ ∧ _).2, by omega⟩), by kernel_rfl, by kernel_rfl⟩⟩
 ·
  rw [h6]; clear h6
  have hyl := flt_len h5
  obtain ⟨k, rfl⟩ : ∃ k', k = k' + 60 := ⟨k - 60, by omega⟩
  refine X.seq (X.region ?_)
  refine OK.dec (((i : Nat) : Int) < ((((s.ls 8).map I).length : Nat) : Int)) (by kernel_rfl) (by kernel_rfl) (fun h12 => ?_) (fun h12 => ?_)
  rotate_left
  ·
   refine OK.nil ?_
   refine X.seq (X.condF (by kernel_rfl) ?_)
   refine X.exit ?_
   show X _ _ _ _ _ _ _ _ _
   refine X.seq (X.region (OK.seg 2 (by kernel_rfl) (OK.nil ?_)))
   refine X.ret ?_
   exact ⟨rfl, giv (gives_sl (g := I) (fun _ _ => rfl) (fun _ => rfl) (b := 3) (n := yg) (ys := ys) (sz := 1) (by kernel_rfl) (by kernel_rfl)) (by first | exact gr_wrong (by assumption) | exact gr_other (by omega) | exact gr_right (ys := ys) (by assumption) (flt_all (by assumption) (by omega)))⟩
  refine OK.nil ?_
  refine X.seq (X.condT (by kernel_rfl) ?_)
  refine X.skip (X.seq (X.block (X.seq (X.region ?_))))
  refine OK.val (.ro [I (((s.ls 8).getD i 0))] 0) (by kernel_rfl) (fun _ => idx_map (sz := 1) (g := I) (d := 0) (xs := s.ls 8) (ex := false) (k := .i64) (n := ((i : Nat) : Int)) rfl Tryz.underlying23 (by kernel_rfl) (by kernel_rfl) (by kernel_rfl) (by kernel_rfl) (by first | omega | (have q := ids8 (by assumption) (by omega : i < _); omega)) (by first | omega | (have q := ids8 (by assumption) (by omega : i < _); omega))) ?_
  refine OK.seg 2 (by kernel_rfl) (OK.nil ?_)
  refine X.seq (X.draw (by kernel_rfl) (by kernel_rfl) (by kernel_rfl) ?_)
  refine DK.seg 3 (by kernel_rfl) ?_
  refine DK.val (.ro (cO ((s.objs).getD (((s.ls 8).getD i 0)).toNat o0)) 0) (by kernel_rfl) (fun _ => idx_map (sz := 18) (g := E) (d := o0) (xs := s.objs) (ex := false) (k := .i64) (n := (((s.ls 8).getD i 0))) rfl Tryz.underlying22 (by kernel_rfl) (by kernel_rfl) (by kernel_rfl) (by kernel_rfl) (by first | omega | (have q := ids8 (by assumption) (by omega : i < _); omega)) (by first | omega | (have q := ids8 (by assumption) (by omega : i < _); omega))) ?_
  refine DK.seg 4 (by kernel_rfl) ?_
  refine DK.dec ((((s.objs).getD (((s.ls 8).getD i 0)).toNat o0) 2) = ctl) (by kernel_rfl) (by kernel_rfl) (fun h13 => ?_) (fun h13 => ?_)
  rotate_left
  ·
   refine DK.seg 1 (by kernel_rfl) (DK.nil ?_)
   refine X.seq (X.region (OK.segE 13 ([.agg (cS s), I 3, .agg [I src, I ctl, I x2, I x3], .ptr 0 0, undefA, .ptr 1 0, .list [] true, .sl 3 yg 0 ys.length, undefA, I (((s.ls 8).getD i 0)), .bool false, .ptr 4 0, .agg (cS s), .nilIface, .bool false, .bool false, I 3, .bool false, .bool false, .bool false, I 3, .bool false, .bool false, .ptr 0 1, .ptr 0 9, .list ((s.ls 8).map I) false, I ((((s.ls 8).map I).length : Nat) : Int), I ((i : Nat) : Int), .bool true, .ro [I (((s.ls 8).getD i 0))] 0, I (((s.ls 8).getD i 0)), .ptr 0 0, .list ((s.objs).map E) false, I (((s.ls 8).getD i 0)), .ro (cO ((s.objs).getD (((s.ls 8).getD i 0)).toNat o0)) 0, .ro (cO ((s.objs).getD (((s.ls 8).getD i 0)).toNat o0)) 2, I (((s.objs).getD (((s.ls 8).getD i 0)).toNat o0) 2), .ptr 1 1, I ctl, .bool false, .bool false, .bool false, .bool true, .bool false, .bool false] ++ List.replicate 4 undefA ++ [.bool false, .agg [.bool true, .bool false, .bool true, .bool false]] ++ List.replicate 13 .opq ++ [undefA] : List AV) [.box (cS s) false, .box [I src, I ctl, I x2, I x3] false, .box [] true, .rows ((ys).map I) yg 1 false, .box [.bool true, .bool false, .bool true, .bool false] false] (by kernel_rfl) (OK.nil ?_)))
   refine X.seq (X.region (OK.seg 8 (by kernel_rfl) (OK.nil ?_)))
   refine X.condF (by kernel_rfl) ?_
   refine X.skip (X.region ?_)
   refine OK.val (I ((i + 1 : Nat) : Int)) (by kernel_rfl) (fun _ => add_op (k := .i64) (a := ((i : Nat) : Int)) (b := 1) rfl (by kernel_rfl) (by kernel_rfl) (by rw [wrap64] <;> first | omega | (have q := ids8 (by assumption) (by omega : i < _); omega))) ?_
   refine OK.seg 1 (by kernel_rfl) (OK.nil ?_)
   have hsk := fun (q : ¬ (grPr s 3 ctl src) ((s.ls 8).getD i 0)) => fskip h5 (by omega) q
   have had := fun (q : (grPr s 3 ctl src) ((s.ls 8).getD i 0)) => fadd h5 (by omega) q
   exact ⟨([.agg (cS s), I 3, .agg [I src, I ctl, I x2, I x3], .ptr 0 0, undefA, .ptr 1 0, .list [] true, .sl 3 yg 0 ys.length, undefA, .opq, .opq, .opq, .agg (cS s), .nilIface, .bool false, .bool false, I 3, .bool false, .bool false, .bool false, I 3, .bool false, .bool false, .ptr 0 1, .ptr 0 9, .list ((s.ls 8).map I) false, I ((((s.ls 8).map I).length : Nat) : Int), I ((i + 1 : Nat) : Int)] ++ List.replicate 36 .opq ++ [undefA] : List AV), [.box (cS s) false, .box [I src, I ctl, I x2, I x3] false, .box [] true, .rows ((ys).map I) yg 1 false, .box [.bool true, .bool false, .bool true, .bool false] false], [0, 1, 3, 0, 0], [[], [], [], [], []], by kernel_rfl, by kernel_rfl, by simp only [bS], by simp only [bS], by kernel_rfl, m7 - 1, by omega, i + 1, by omega, by omega, .inr ⟨ys, yg, ys.length, rfl, hsk (by intro q; first | (exfalso; omega) | exact absurd q.1 (by assumption) | exact (show ¬ (rightS s ∧ cre s ((s.ls 8).getD i 0)) by assumption) ⟨by assumption, q.1⟩ | (have q2 := q.2; omega)), by kernel_rfl, by kernel_rfl⟩⟩
  refine DK.seg 1 (by kernel_rfl) (DK.nil ?_)
  refine X.seq (X.region (OK.seg 8 (by kernel_rfl) ?_))
  refine OK.ndec ((((s.ls 8).getD i 0)) = src) (by kernel_rfl) (by kernel_rfl) (fun h14 => ?_) (fun h14 => ?_)
  rotate_left
  ·
   refine OK.seg 4 (by kernel_rfl) (OK.nil ?_)
   refine X.seq (X.region (OK.seg 8 (by kernel_rfl) (OK.nil ?_)))
   refine X.condF (by kernel_rfl) ?_
   refine X.skip (X.region ?_)
   refine OK.val (I ((i + 1 : Nat) : Int)) (by kernel_rfl) (fun _ => add_op (k := .i64) (a := ((i : Nat) : Int)) (b := 1) rfl (by kernel_rfl) (by kernel_rfl) (by rw [wrap64] <;> first | omega | (have q := ids8 (by assumption) (by omega : i < _); omega))) ?_
   refine OK.seg 1 (by kernel_rfl) (OK.nil ?_)
   have hsk := fun (q : ¬ (grPr s 3 ctl src) ((s.ls 8).getD i 0)) => fskip h5 (by omega) q
   have had := fun (q : (grPr s 3 ctl src) ((s.ls 8).getD i 0)) => fadd h5 (by omega) q
   exact ⟨([.agg (cS s), I 3, .agg [I src, I ctl, I x2, I x3], .ptr 0 0, undefA, .ptr 1 0, .list [] true, .sl 3 yg 0 ys.length, undefA, .opq, .opq, .opq, .agg (cS s), .nilIface, .bool false, .bool false, I 3, .bool false, .bool false, .bool false, I 3, .bool false, .bool false, .ptr 0 1, .ptr 0 9, .list ((s.ls 8).map I) false, I ((((s.ls 8).map I).length : Nat) : Int), I ((i + 1 : Nat) : Int)] ++ List.replicate 36 .opq ++ [undefA] : List AV), [.box (cS s) false, .box [I src, I ctl, I x2, I x3] false, .box [] true, .rows ((ys).map I) yg 1 false, .box [.bool true, .bool true, .bool false, .bool false] false], [0, 1, 3, 0, 0], [[], [], [], [], []], by kernel_rfl, by kernel_rfl, by simp only [bS], by simp only [bS], by kernel_rfl, m7 - 1, by omega, i + 1, by omega, by omega, .inr ⟨ys, yg, ys.length, rfl, hsk (by intro q; first | (exfalso; omega) | exact absurd q.1 (by assumption) | exact (show ¬ (rightS s ∧ cre s ((s.ls 8).getD i 0)) by assumption) ⟨by assumption, q.1⟩ | (have q2 := q.2; omega)), by kernel_rfl, by kernel_rfl⟩⟩
  refine OK.seg 4 (by kernel_rfl) (OK.nil ?_)
  refine X.seq (X.region (OK.seg 6 (by kernel_rfl) ?_))
  refine OK.rdP [.agg (cS s), I (((s.ls 8).getD i 0))] [.agg (cS s), I (((s.ls 8).getD i 0))] (rightS s ∧ cre s (((s.ls 8).getD i 0))) rfl (by kernel_rfl) rfl (by kernel_rfl) (by kernel_rfl) (by kernel_rfl) (by kernel_rfl) (by kernel_rfl) (Is_w _ _ _ _ hyp0 (by omega)) (fun h15 => ?_) (fun h15 => ?_)
  rotate_left
  ·
   refine OK.seg 1 (by kernel_rfl) (OK.nil ?_)
   refine X.condF (by kernel_rfl) ?_
   refine X.skip (X.region ?_)
   refine OK.val (I ((i + 1 : Nat) : Int)) (by kernel_rfl) (fun _ => add_op (k := .i64) (a := ((i : Nat) : Int)) (b := 1) rfl (by kernel_rfl) (by kernel_rfl) (by rw [wrap64] <;> first | omega | (have q := ids8 (by assumption) (by omega : i < _); omega))) ?_
   refine OK.seg 1 (by kernel_rfl) (OK.nil ?_)
   have hsk := fun (q : ¬ (grPr s 3 ctl src) ((s.ls 8).getD i 0)) => fskip h5 (by omega) q
   have had := fun (q : (grPr s 3 ctl src) ((s.ls 8).getD i 0)) => fadd h5 (by omega) q
   exact ⟨([.agg (cS s), I 3, .agg [I src, I ctl, I x2, I x3], .ptr 0 0, undefA, .ptr 1 0, .list [] true, .sl 3 yg 0 ys.length, undefA, .opq, .opq, .opq, .agg (cS s), .nilIface, .bool false, .bool false, I 3, .bool false, .bool false, .bool false, I 3, .bool false, .bool false, .ptr 0 1, .ptr 0 9, .list ((s.ls 8).map I) false, I ((((s.ls 8).map I).length : Nat) : Int), I ((i + 1 : Nat) : Int)] ++ List.replicate 36 .opq ++ [undefA] : List AV), [.box (cS s) false, .box [I src, I ctl, I x2, I x3] false, .box [] true, .rows ((ys).map I) yg 1 false, .box [.bool true, .bool true, .bool false, .bool true] false], [0, 1, 3, 0, 0], [[], [], [], [], []], by kernel_rfl, by kernel_rfl, by simp only [bS], by simp only [bS], by kernel_rfl, m7 - 1, by omega, i + 1, by omega, by omega, .inr ⟨ys, yg, ys.length, rfl, hsk (by intro q; first | (exfalso; omega) | exact absurd q.1 (by assumption) | exact (show ¬ (rightS s ∧ cre s ((s.ls 8).getD i 0)) by assumption) ⟨by assumption, q.1⟩ | (have q2 := q.2; omega)), by kernel_rfl, by kernel_rfl⟩⟩
  refine OK.seg 1 (by kernel_rfl) (OK.nil ?_)
  refine X.condT (by kernel_rfl) ?_
  refine X.region (OK.seg 3 (by kernel_rfl) ?_)
  refine OK.opS (.sl 3 (yg + 1) 0 (ys.length + 1)) [.box (cS s) false, .box [I src, I ctl, I x2, I x3] false, .box [] true, .rows (((ys) ++ [(((s.ls 8).getD i 0))]).map I) (yg + 1) 1 false, .box [.bool true, .bool true, .bool false, .bool true] false] (by kernel_rfl) (ap_sl (b := 3) (n := yg) (ex := true) (g := I) (ys := ys) (v := (((s.ls 8).getD i 0))) rfl rfl rfl rfl Tryz.underlying23 Tryz.underlying23 (by kernel_rfl) (by_ := 8) (by kernel_rfl) (z := I 0) (by kernel_rfl) rfl (by omega) (fun _ => rfl) (fun _ => rfl) (by kernel_rfl) (by kernel_rfl) (Nat.zero_le _) (ap_bd (by omega)) (by kernel_rfl)) ?_
  refine OK.seg 1 (by kernel_rfl) (OK.nil ?_)
  refine X.region ?_
  refine OK.val (I ((i + 1 : Nat) : Int)) (by kernel_rfl) (fun _ => add_op (k := .i64) (a := ((i : Nat) : Int)) (b := 1) rfl (by kernel_rfl) (by kernel_rfl) (by rw [wrap64] <;> first | omega | (have q := ids8 (by assumption) (by omega : i < _); omega))) ?_
  refine OK.seg 1 (by kernel_rfl) (OK.nil ?_)
  have hsk := fun (q : ¬ (grPr s 3 ctl src) ((s.ls 8).getD i 0)) => fskip h5 (by omega) q
  have had := fun (q : (grPr s 3 ctl src) ((s.ls 8).getD i 0)) => fadd h5 (by omega) q
  exact ⟨([.agg (cS s), I 3, .agg [I src, I ctl, I x2, I x3], .ptr 0 0, undefA, .ptr 1 0, .list [] true, .sl 3 (yg + 1) 0 (ys.length + 1), undefA, .opq, .opq, .opq, .agg (cS s), .nilIface, .bool false, .bool false, I 3, .bool false, .bool false, .bool false, I 3, .bool false, .bool false, .ptr 0 1, .ptr 0 9, .list ((s.ls 8).map I) false, I ((((s.ls 8).map I).length : Nat) : Int), I ((i + 1 : Nat) : Int)] ++ List.replicate 36 .opq ++ [undefA] : List AV), [.box (cS s) false, .box [I src, I ctl, I x2, I x3] false, .box [] true, .rows (((ys) ++ [(((s.ls 8).getD i 0))]).map I) (yg + 1) 1 false, .box [.bool true, .bool true, .bool false, .bool true] false], [0, 1, 3, 0, 0], [[], [], [], [], []], by kernel_rfl, by kernel_rfl, by simp only [bS], by simp only [bS], by kernel_rfl, m7 - 1, by omega, i + 1, by omega, by omega, .inr ⟨ys ++ [(s.ls 8).getD i 0], yg + 1, ys.length + 1, by simp, had (by first | (exfalso; omega) | exact ⟨by first | assumption | exact (by assumption : _ ∧ _).2, by omega⟩), by kernel_rfl, by kernel_rfl⟩⟩

set_option maxHeartbeats 1000000 in
theorem Group_o : ∀ k (s : St) (n src ctl x2 x3 : Int) σ, wf s → (n < 0 ∨ n > 3) → 1000000 ≤ k → readW (callW Tryz.prog (exec Tryz.prog cfg k)) 13 [.agg (cS s), I n, .agg [I src, I ctl, I x2, I x3]] σ = some (.list ((grL s n ctl src).map I) false, σ) := by
 intro k s n src ctl x2 x3 σ hyp0 hyp1 hk
 obtain ⟨k, rfl⟩ : ∃ k', k = k' + 60 := ⟨k - 60, by omega⟩
 have hw1 := hyp0.1
 have hw2 := hyp0.2
 have hlm : ((s.objs).map E).length = s.objs.length := List.length_map _
 have hll : ∀ z, ((s.ls z).map I).length = (s.ls z).length := fun z => List.length_map _
 have hl8 := hll 8; have hw8 := hw2 8
 refine reader_of Tryz.func13 rfl (by simp only [AV.frees, AV.free, fr_I, fr_E, fr_cO, fr_cL, fr_cS, Bool.and_self]) ?_
 refine X.seq (X.region (OK.seg 3 (by kernel_rfl) (OK.nil ?_)))
 refine X.seq (X.seq (X.region (OK.seg 1 (by kernel_rfl) ?_)))
 refine OK.rd [.agg (cS s)] [.agg (cS s)] (errS s) rfl (by kernel_rfl) rfl (by kernel_rfl) (by kernel_rfl) (by kernel_rfl) (by kernel_rfl) (by kernel_rfl) (Check_w _ _ _ hyp0 (by omega)) ?_
 rcases errS_cases s with ⟨hRh1, heh1⟩ | ⟨hRh1, vh1, heh1⟩ <;> rw [heh1]
 rotate_left
 ·
  refine OK.seg 9 (by kernel_rfl) (OK.nil ?_)
  refine X.condT (by kernel_rfl) ?_
  refine X.seq (X.region (OK.seg 1 (by kernel_rfl) (OK.nil ?_)))
  refine X.ret ?_
  exact ⟨rfl, giv (r := .list [] false) (by kernel_rfl) (by first | exact gr_wrong (by assumption) | exact gr_other (by omega) | exact gr_right (ys := []) (by assumption) (flt_all (by assumption) (by omega)))⟩
 refine OK.seg 3 (by kernel_rfl) ?_
 refine OK.dec (n < 0) (by kernel_rfl) (by kernel_rfl) (fun h3 => ?_) (fun h3 => ?_)
 ·
  refine OK.seg 5 (by kernel_rfl) (OK.nil ?_)
  refine X.condT (by kernel_rfl) ?_
  refine X.seq (X.region (OK.seg 1 (by kernel_rfl) (OK.nil ?_)))
  refine X.ret ?_
  exact ⟨rfl, giv (r := .list [] false) (by kernel_rfl) (by first | exact gr_wrong (by assumption) | exact gr_other (by omega) | exact gr_right (ys := []) (by assumption) (flt_all (by assumption) (by omega)))⟩
 refine OK.seg 3 (by kernel_rfl) ?_
 refine OK.dec (n > 3) (by kernel_rfl) (by kernel_rfl) (fun h4 => ?_) (fun h4 => ?_)
 rotate_left
 · exfalso; omega
 refine OK.seg 1 (by kernel_rfl) (OK.nil ?_)
 refine X.condT (by kernel_rfl) ?_
 refine X.seq (X.region (OK.seg 1 (by kernel_rfl) (OK.nil ?_)))
 refine X.ret ?_
 exact ⟨rfl, giv (r := .list [] false) (by kernel_rfl) (by first | exact gr_wrong (by assumption) | exact gr_other (by omega) | exact gr_right (ys := []) (by assumption) (flt_all (by assumption) (by omega)))⟩

set_option maxHeartbeats 4000000 in
theorem rGroup_w : ∀ k (s : St) (n src ctl x2 x3 : Int) σ, wf s → 1500000 ≤ k → readW (callW Tryz.prog (exec Tryz.prog cfg k)) 11 [.agg (cS s), I n, .agg [I src, I ctl, I x2, I x3]] σ = some (.list ((grL s n ctl src).map I) false, σ) := by
 intro k s n src ctl x2 x3 σ hyp0 hk
 obtain ⟨k, rfl⟩ : ∃ k', k = k' + 60 := ⟨k - 60, by omega⟩
 have hw1 := hyp0.1
 have hw2 := hyp0.2
 have hlm : ((s.objs).map E).length = s.objs.length := List.length_map _
 have hll : ∀ z, ((s.ls z).map I).length = (s.ls z).length := fun z => List.length_map _
 have hl8 := hll 8; have hw8 := hw2 8
 refine reader_of Tryz.func11 rfl (by simp only [AV.frees, AV.free, fr_I, fr_E, fr_cO, fr_cL, fr_cS, Bool.and_self]) ?_
 refine X.seq (X.region (OK.seg 3 (by kernel_rfl) (OK.nil ?_)))
 refine X.seq (X.region (OK.seg 2 (by kernel_rfl) (OK.nil ?_)))
 refine X.seq (X.seq (X.region (OK.seg 1 (by kernel_rfl) ?_)))
 refine OK.rd [.agg (cS s)] [.agg (cS s)] (I (numS s)) rfl (by kernel_rfl) rfl (by kernel_rfl) (by kernel_rfl) (by kernel_rfl) (by kernel_rfl) (by kernel_rfl) (rCheck_w _ _ _ hyp0 (by omega)) ?_
 refine OK.ndec ((numS s) = 0) (by kernel_rfl) (by kernel_rfl) (fun h1 => ?_) (fun h1 => ?_)
 ·
  refine OK.nil ?_
  refine X.condT (by kernel_rfl) ?_
  refine X.seq (X.region (OK.seg 2 (by kernel_rfl) (OK.nil ?_)))
  refine X.ret ?_
  exact ⟨rfl, giv (r := .list [] false) (by kernel_rfl) (by first | exact gr_wrong (by assumption) | exact gr_other (by omega) | exact gr_right (ys := []) (by assumption) (flt_all (by assumption) (by omega)))⟩
 refine OK.nil ?_
 refine X.condF (by kernel_rfl) ?_
 refine X.skip (X.seq (X.seq (X.region (OK.seg 5 (by kernel_rfl) (OK.nil ?_)))))
 refine X.block ?_
 refine X.rounds3 (K := 600000) [9, 10, 21, 22, 23, 24, 25, 26, 27, 28, 29, 30, 31, 32, 33, 34, 35, 36, 37, 38, 39, 40, 41, 42, 43, 44, 45, 46, 47, 48, 49, 50, 51, 52, 53, 54, 55, 56, 57, 58, 59, 60, 61, 62, 63, 64, 65, 66, 67, 68, 69, 70, 71, 72] (by kernel_rfl) rfl (fun m fr σ => ∃ i : Nat, m = (s.ls 8).length - i ∧ i ≤ (s.ls 8).length ∧ ((flt (grPr s n ctl src) ((s.ls 8).take i) = [] ∧ clearA' [9, 10, 21, 22, 23, 24, 25, 26, 27, 28, 29, 30, 31, 32, 33, 34, 35, 36, 37, 38, 39, 40, 41, 42, 43, 44, 45, 46, 47, 48, 49, 50, 51, 52, 53, 54, 55, 56, 57, 58, 59, 60, 61, 62, 63, 64, 65, 66, 67, 68, 69, 70, 71, 72] fr = ([.agg (cS s), I n, .agg [I src, I ctl, I x2, I x3], .ptr 0 0, undefA, .ptr 1 0, .list [] true, .list [] true, undefA, .opq, .opq, .list [] true, .agg (cS s), I (numS s), .bool false, undefA, .ptr 0 1, .ptr 0 9, .list ((s.ls 8).map I) false, I ((((s.ls 8).map I).length : Nat) : Int), I ((i : Nat) : Int)] ++ List.replicate 52 .opq ++ [undefA] : List AV) ∧ σ = [.box (cS s) false, .box [I src, I ctl, I x2, I x3] false]) ∨ ∃ (ys : List Int) (yg yn : Nat), yn = ys.length ∧ flt (grPr s n ctl src) ((s.ls 8).take i) = ys ∧ clearA' [9, 10, 21, 22, 23, 24, 25, 26, 27, 28, 29, 30, 31, 32, 33, 34, 35, 36, 37, 38, 39, 40, 41, 42, 43, 44, 45, 46, 47, 48, 49, 50, 51, 52, 53, 54, 55, 56, 57, 58, 59, 60, 61, 62, 63, 64, 65, 66, 67, 68, 69, 70, 71, 72] fr = ([.agg (cS s), I n, .agg [I src, I ctl, I x2, I x3], .ptr 0 0, undefA, .ptr 1 0, .list [] true, .sl 2 yg 0 yn, undefA, .opq, .opq, .list [] true, .agg (cS s), I (numS s), .bool false, undefA, .ptr 0 1, .ptr 0 9, .list ((s.ls 8).map I) false, I ((((s.ls 8).map I).length : Nat) : Int), I ((i : Nat) : Int)] ++ List.replicate 52 .opq ++ [undefA] : List AV) ∧ σ = [.box (cS s) false, .box [I src, I ctl, I x2, I x3] false, .rows ((ys).map I) yg 1 false])) ?_ (m := (s.ls 8).length) ⟨0, rfl, Nat.zero_le _, .inl ⟨rfl, by kernel_rfl, by kernel_rfl⟩⟩ ?_
 rotate_left
 · omega
 rintro m6 fr σ ⟨i, h2, h3, ⟨h4, h5, rfl⟩ | ⟨ys, yg, yn, rfl, h4, h5, rfl⟩⟩ k h6
 ·
  rw [h5]; clear h5
  have hyl := flt_len h4
  obtain ⟨k, rfl⟩ : ∃ k', k = k' + 60 := ⟨k - 60, by omega⟩
  refine X.seq (X.region ?_)
  refine OK.dec (((i : Nat) : Int) < ((((s.ls 8).map I).length : Nat) : Int)) (by kernel_rfl) (by kernel_rfl) (fun h7 => ?_) (fun h7 => ?_)
  rotate_left
  ·
   refine OK.nil ?_
   refine X.seq (X.condF (by kernel_rfl) ?_)
   refine X.exit ?_
   show X _ _ _ _ _ _ _ _ _
   refine X.seq (X.region (OK.seg 2 (by kernel_rfl) (OK.nil ?_)))
   refine X.ret ?_
   exact ⟨rfl, giv (r := .list [] false) (by kernel_rfl) (by first | exact gr_wrong (by assumption) | exact gr_other (by omega) | exact gr_right (ys := []) (by assumption) (flt_all (by assumption) (by omega)))⟩
  refine OK.nil ?_
  refine X.seq (X.condT (by kernel_rfl) ?_)
  refine X.skip (X.seq (X.block (X.seq (X.region ?_))))
  refine OK.val (.ro [I (((s.ls 8).getD i 0))] 0) (by kernel_rfl) (fun _ => idx_map (sz := 1) (g := I) (d := 0) (xs := s.ls 8) (ex := false) (k := .i64) (n := ((i : Nat) : Int)) rfl Tryz.underlying23 (by kernel_rfl) (by kernel_rfl) (by kernel_rfl) (by kernel_rfl) (by first | omega | (have q := ids8 (by assumption) (by omega : i < _); omega)) (by first | omega | (have q := ids8 (by assumption) (by omega : i < _); omega))) ?_
  refine OK.seg 2 (by kernel_rfl) (OK.nil ?_)
  refine X.seq (X.draw (by kernel_rfl) (by kernel_rfl) (by kernel_rfl) ?_)
  refine DK.seg 3 (by kernel_rfl) ?_
  refine DK.val (.ro (cO ((s.objs).getD (((s.ls 8).getD i 0)).toNat o0)) 0) (by kernel_rfl) (fun _ => idx_map (sz := 18) (g := E) (d := o0) (xs := s.objs) (ex := false) (k := .i64) (n := (((s.ls 8).getD i 0))) rfl Tryz.underlying22 (by kernel_rfl) (by kernel_rfl) (by kernel_rfl) (by kernel_rfl) (by first | omega | (have q := ids8 (by assumption) (by omega : i < _); omega)) (by first | omega | (have q := ids8 (by assumption) (by omega : i < _); omega))) ?_
  refine DK.seg 4 (by kernel_rfl) ?_
  refine DK.dec ((((s.objs).getD (((s.ls 8).getD i 0)).toNat o0) 2) = ctl) (by kernel_rfl) (by kernel_rfl) (fun h8 => ?_) (fun h8 => ?_)
  rotate_left
  ·
   refine DK.seg 1 (by kernel_rfl) (DK.nil ?_)
   refine X.seq (X.region (OK.seg 2 (by kernel_rfl) ?_))
   refine OK.rdP [.agg (cS s), I (((s.ls 8).getD i 0))] [.agg (cS s), I (((s.ls 8).getD i 0))] (cre s (((s.ls 8).getD i 0))) rfl (by kernel_rfl) rfl (by kernel_rfl) (by kernel_rfl) (by kernel_rfl) (by kernel_rfl) (by kernel_rfl) (rIs_w _ _ _ _ hyp0 ((right_of (by assumption)).2.1) (by omega)) (fun h17 => ?_) (fun h17 => ?_)
   rotate_left
   ·
    refine OK.segE 32 ([.agg (cS s), I n, .agg [I src, I ctl, I x2, I x3], .ptr 0 0, undefA, .ptr 1 0, .list [] true, .list [] true, undefA, I (((s.ls 8).getD i 0)), .bool false, .list [] true, .agg (cS s), I (numS s), .bool false, undefA, .ptr 0 1, .ptr 0 9, .list ((s.ls 8).map I) false, I ((((s.ls 8).map I).length : Nat) : Int), I ((i : Nat) : Int), .bool true, .ro [I (((s.ls 8).getD i 0))] 0, I (((s.ls 8).getD i 0)), .ptr 0 0, .list ((s.objs).map E) false, I (((s.ls 8).getD i 0)), .ro (cO ((s.objs).getD (((s.ls 8).getD i 0)).toNat o0)) 0, .ro (cO ((s.objs).getD (((s.ls 8).getD i 0)).toNat o0)) 2, I (((s.objs).getD (((s.ls 8).getD i 0)).toNat o0) 2), .ptr 1 1, I ctl, .bool false, .agg (cS s), I (((s.ls 8).getD i 0)), .bool false, .bool false] ++ List.replicate 30 undefA ++ [.bool false] ++ List.replicate 5 .opq ++ [undefA] : List AV) [.box (cS s) false, .box [I src, I ctl, I x2, I x3] false] (by kernel_rfl) (OK.nil ?_)
    refine X.condF (by kernel_rfl) ?_
    refine X.skip (X.region ?_)
    refine OK.val (I ((i + 1 : Nat) : Int)) (by kernel_rfl) (fun _ => add_op (k := .i64) (a := ((i : Nat) : Int)) (b := 1) rfl (by kernel_rfl) (by kernel_rfl) (by rw [wrap64] <;> first | omega | (have q := ids8 (by assumption) (by omega : i < _); omega))) ?_
    refine OK.seg 1 (by kernel_rfl) (OK.nil ?_)
    have hsk := fun (q : ¬ (grPr s n ctl src) ((s.ls 8).getD i 0)) => fskip h4 (by omega) q
    have had := fun (q : (grPr s n ctl src) ((s.ls 8).getD i 0)) => fadd h4 (by omega) q
    exact ⟨([.agg (cS s), I n, .agg [I src, I ctl, I x2, I x3], .ptr 0 0, undefA, .ptr 1 0, .list [] true, .list [] true, undefA, .opq, .opq, .list [] true, .agg (cS s), I (numS s), .bool false, undefA, .ptr 0 1, .ptr 0 9, .list ((s.ls 8).map I) false, I ((((s.ls 8).map I).length : Nat) : Int), I ((i + 1 : Nat) : Int)] ++ List.replicate 52 .opq ++ [undefA] : List AV), [.box (cS s) false, .box [I src, I ctl, I x2, I x3] false], [0, 1, 0, 0], [[], []], by kernel_rfl, by kernel_rfl, by simp only [bS], by simp only [bS], by kernel_rfl, m6 - 1, by omega, i + 1, by omega, by omega, .inl ⟨hsk (by intro q; first | (exfalso; omega) | exact absurd q.1 (by assumption) | exact (show ¬ (rightS s ∧ cre s ((s.ls 8).getD i 0)) by assumption) ⟨by assumption, q.1⟩ | (have q2 := q.2; omega)), by kernel_rfl, by kernel_rfl⟩⟩
   refine OK.seg 2 (by kernel_rfl) ?_
   refine OK.dec (n = 0) (by kernel_rfl) (by kernel_rfl) (fun h18 => ?_) (fun h18 => ?_)
   ·
    refine OK.segE 29 ([.agg (cS s), I n, .agg [I src, I ctl, I x2, I x3], .ptr 0 0, undefA, .ptr 1 0, .list [] true, .list [] true, undefA, I (((s.ls 8).getD i 0)), .bool false, .list [] true, .agg (cS s), I (numS s), .bool false, undefA, .ptr 0 1, .ptr 0 9, .list ((s.ls 8).map I) false, I ((((s.ls 8).map I).length : Nat) : Int), I ((i : Nat) : Int), .bool true, .ro [I (((s.ls 8).getD i 0))] 0, I (((s.ls 8).getD i 0)), .ptr 0 0, .list ((s.objs).map E) false, I (((s.ls 8).getD i 0)), .ro (cO ((s.objs).getD (((s.ls 8).getD i 0)).toNat o0)) 0, .ro (cO ((s.objs).getD (((s.ls 8).getD i 0)).toNat o0)) 2, I (((s.objs).getD (((s.ls 8).getD i 0)).toNat o0) 2), .ptr 1 1, I ctl, .bool false, .agg (cS s), I (((s.ls 8).getD i 0)), .bool true, .bool true, I n, .bool true, .bool true] ++ List.replicate 5 undefA ++ [.bool true, .bool true] ++ List.replicate 6 undefA ++ [.bool true, .bool true] ++ List.replicate 11 undefA ++ [.bool true, .bool true] ++ List.replicate 5 .opq ++ [undefA] : List AV) [.box (cS s) false, .box [I src, I ctl, I x2, I x3] false] (by kernel_rfl) (OK.nil ?_)
    refine X.condT (by kernel_rfl) ?_
    refine X.region (OK.seg 5 (by kernel_rfl) (OK.nil ?_))
    refine X.region ?_
    refine OK.val (I ((i + 1 : Nat) : Int)) (by kernel_rfl) (fun _ => add_op (k := .i64) (a := ((i : Nat) : Int)) (b := 1) rfl (by kernel_rfl) (by kernel_rfl) (by rw [wrap64] <;> first | omega | (have q := ids8 (by assumption) (by omega : i < _); omega))) ?_
    refine OK.seg 1 (by kernel_rfl) (OK.nil ?_)
    have hsk := fun (q : ¬ (grPr s n ctl src) ((s.ls 8).getD i 0)) => fskip h4 (by omega) q
    have had := fun (q : (grPr s n ctl src) ((s.ls 8).getD i 0)) => fadd h4 (by omega) q
    exact ⟨([.agg (cS s), I n, .agg [I src, I ctl, I x2, I x3], .ptr 0 0, undefA, .ptr 1 0, .list [] true, .sl 2 0 0 1, undefA, .opq, .opq, .list [] true, .agg (cS s), I (numS s), .bool false, undefA, .ptr 0 1, .ptr 0 9, .list ((s.ls 8).map I) false, I ((((s.ls 8).map I).length : Nat) : Int), I ((i + 1 : Nat) : Int)] ++ List.replicate 52 .opq ++ [undefA] : List AV), [.box (cS s) false, .box [I src, I ctl, I x2, I x3] false, .rows (([(((s.ls 8).getD i 0))]).map I) 0 1 false], [0, 1, 2, 0, 0], [[], [], []], by kernel_rfl, by kernel_rfl, by simp only [bS], by simp only [bS], by kernel_rfl, m6 - 1, by omega, i + 1, by omega, by omega, .inr ⟨[(s.ls 8).getD i 0], 0, 1, rfl, had (by first | (exfalso; omega) | exact ⟨by first | assumption | exact (by assumption : _ ∧ _).2, by omega⟩), by kernel_rfl, by kernel_rfl⟩⟩
   refine OK.seg 2 (by kernel_rfl) ?_
   refine OK.dec (n = 1) (by kernel_rfl) (by kernel_rfl) (fun h19 => ?_) (fun h19 => ?_)
   rotate_left
   ·
    refine OK.seg 6 (by kernel_rfl) ?_
    refine OK.dec (n = 2) (by kernel_rfl) (by kernel_rfl) (fun h22 => ?_) (fun h22 => ?_)
    ·
     refine OK.segE 19 ([.agg (cS s), I n, .agg [I src, I ctl, I x2, I x3], .ptr 0 0, undefA, .ptr 1 0, .list [] true, .list [] true, undefA, I (((s.ls 8).getD i 0)), .bool false, .list [] true, .agg (cS s), I (numS s), .bool false, undefA, .ptr 0 1, .ptr 0 9, .list ((s.ls 8).map I) false, I ((((s.ls 8).map I).length : Nat) : Int), I ((i : Nat) : Int), .bool true, .ro [I (((s.ls 8).getD i 0))] 0, I (((s.ls 8).getD i 0)), .ptr 0 0, .list ((s.objs).map E) false, I (((s.ls 8).getD i 0)), .ro (cO ((s.objs).getD (((s.ls 8).getD i 0)).toNat o0)) 0, .ro (cO ((s.objs).getD (((s.ls 8).getD i 0)).toNat o0)) 2, I (((s.objs).getD (((s.ls 8).getD i 0)).toNat o0) 2), .ptr 1 1, I ctl, .bool false, .agg (cS s), I (((s.ls 8).getD i 0)), .bool true, .bool true, I n, .bool false, .bool false, I n, .bool false, .bool false, undefA, .bool false, .bool false, .bool false, I n, .bool true, .bool true, .bool false, .bool true, .bool true, .bool true, .bool true] ++ List.replicate 11 undefA ++ [.bool true, .bool true] ++ List.replicate 5 .opq ++ [undefA] : List AV) [.box (cS s) false, .box [I src, I ctl, I x2, I x3] false] (by kernel_rfl) (OK.nil ?_)
     refine X.condT (by kernel_rfl) ?_
     refine X.region (OK.seg 5 (by kernel_rfl) (OK.nil ?_))
     refine X.region ?_
     refine OK.val (I ((i + 1 : Nat) : Int)) (by kernel_rfl) (fun _ => add_op (k := .i64) (a := ((i : Nat) : Int)) (b := 1) rfl (by kernel_rfl) (by kernel_rfl) (by rw [wrap64] <;> first | omega | (have q := ids8 (by assumption) (by omega : i < _); omega))) ?_
     refine OK.seg 1 (by kernel_rfl) (OK.nil ?_)
     have hsk := fun (q : ¬ (grPr s n ctl src) ((s.ls 8).getD i 0)) => fskip h4 (by omega) q
     have had := fun (q : (grPr s n ctl src) ((s.ls 8).getD i 0)) => fadd h4 (by omega) q
     exact ⟨([.agg (cS s), I n, .agg [I src, I ctl, I x2, I x3], .ptr 0 0, undefA, .ptr 1 0, .list [] true, .sl 2 0 0 1, undefA, .opq, .opq, .list [] true, .agg (cS s), I (numS s), .bool false, undefA, .ptr 0 1, .ptr 0 9, .list ((s.ls 8).map I) false, I ((((s.ls 8).map I).length : Nat) : Int), I ((i + 1 : Nat) : Int)] ++ List.replicate 52 .opq ++ [undefA] : List AV), [.box (cS s) false, .box [I src, I ctl, I x2, I x3] false, .rows (([(((s.ls 8).getD i 0))]).map I) 0 1 false], [0, 1, 2, 0, 0], [[], [], []], by kernel_rfl, by kernel_rfl, by simp only [bS], by simp only [bS], by kernel_rfl, m6 - 1, by omega, i + 1, by omega, by omega, .inr ⟨[(s.ls 8).getD i 0], 0, 1, rfl, had (by first | (exfalso; omega) | exact ⟨by first | assumption | exact (by assumption : _ ∧ _).2, by omega⟩), by kernel_rfl, by kernel_rfl⟩⟩
    refine OK.seg 7 (by kernel_rfl) ?_
    refine OK.dec (n = 3) (by kernel_rfl) (by kernel_rfl) (fun h23 => ?_) (fun h23 => ?_)
    ·
     refine OK.seg 11 (by kernel_rfl) (OK.nil ?_)
     refine X.condF (by kernel_rfl) ?_
     refine X.skip (X.region ?_)
     refine OK.val (I ((i + 1 : Nat) : Int)) (by kernel_rfl) (fun _ => add_op (k := .i64) (a := ((i : Nat) : Int)) (b := 1) rfl (by kernel_rfl) (by kernel_rfl) (by rw [wrap64] <;> first | omega | (have q := ids8 (by assumption) (by omega : i < _); omega))) ?_
     refine OK.seg 1 (by kernel_rfl) (OK.nil ?_)
     have hsk := fun (q : ¬ (grPr s n ctl src) ((s.ls 8).getD i 0)) => fskip h4 (by omega) q
     have had := fun (q : (grPr s n ctl src) ((s.ls 8).getD i 0)) => fadd h4 (by omega) q
     exact ⟨([.agg (cS s), I n, .agg [I src, I ctl, I x2, I x3], .ptr 0 0, undefA, .ptr 1 0, .list [] true, .list [] true, undefA, .opq, .opq, .list [] true, .agg (cS s), I (numS s), .bool false, undefA, .ptr 0 1, .ptr 0 9, .list ((s.ls 8).map I) false, I ((((s.ls 8).map I).length : Nat) : Int), I ((i + 1 : Nat) : Int)] ++ List.replicate 52 .opq ++ [undefA] : List AV), [.box (cS s) false, .box [I src, I ctl, I x2, I x3] false], [0, 1, 0, 0], [[], []], by kernel_rfl, by kernel_rfl, by simp only [bS], by simp only [bS], by kernel_rfl, m6 - 1, by omega, i + 1, by omega, by omega, .inl ⟨hsk (by intro q; first | (exfalso; omega) | exact absurd q.1 (by assumption) | exact (show ¬ (rightS s ∧ cre s ((s.ls 8).getD i 0)) by assumption) ⟨by assumption, q.1⟩ | (have q2 := q.2; omega)), by kernel_rfl, by kernel_rfl⟩⟩
    refine OK.seg 11 (by kernel_rfl) (OK.nil ?_)
    refine X.condF (by kernel_rfl) ?_
    refine X.skip (X.region ?_)
    refine OK.val (I ((i + 1 : Nat) : Int)) (by kernel_rfl) (fun _ => add_op (k := .i64) (a := ((i : Nat) : Int)) (b := 1) rfl (by kernel_rfl) (by kernel_rfl) (by rw [wrap64] <;> first | omega | (have q := ids8 (by assumption) (by omega : i < _); omega))) ?_
    refine OK.seg 1 (by kernel_rfl) (OK.nil ?_)
    have hsk := fun (q : ¬ (grPr s n ctl src) ((s.ls 8).getD i 0)) => fskip h4 (by omega) q
    have had := fun (q : (grPr s n ctl src) ((s.ls 8).getD i 0)) => fadd h4 (by omega) q
    exact ⟨([.agg (cS s), I n, .agg [I src, I ctl, I x2, I x3], .ptr 0 0, undefA, .ptr 1 0, .list [] true, .list [] true, undefA, .opq, .opq, .list [] true, .agg (cS s), I (numS s), .bool false, undefA, .ptr 0 1, .ptr 0 9, .list ((s.ls 8).map I) false, I ((((s.ls 8).map I).length : Nat) : Int), I ((i + 1 : Nat) : Int)] ++ List.replicate 52 .opq ++ [undefA] : List AV), [.box (cS s) false, .box [I src, I ctl, I x2, I x3] false], [0, 1, 0, 0], [[], []], by kernel_rfl, by kernel_rfl, by simp only [bS], by simp only [bS], by kernel_rfl, m6 - 1, by omega, i + 1, by omega, by omega, .inl ⟨hsk (by intro q; first | (exfalso; omega) | exact absurd q.1 (by assumption) | exact (show ¬ (rightS s ∧ cre s ((s.ls 8).getD i 0)) by assumption) ⟨by assumption, q.1⟩ | (have q2 := q.2; omega)), by kernel_rfl, by kernel_rfl⟩⟩
   refine OK.seg 6 (by kernel_rfl) ?_
   refine OK.dec (n = 2) (by kernel_rfl) (by kernel_rfl) (fun h20 => ?_) (fun h20 => ?_)
   ·
    refine OK.segE 19 ([.agg (cS s), I n, .agg [I src, I ctl, I x2, I x3], .ptr 0 0, undefA, .ptr 1 0, .list [] true, .list [] true, undefA, I (((s.ls 8).getD i 0)), .bool false, .list [] true, .agg (cS s), I (numS s), .bool false, undefA, .ptr 0 1, .ptr 0 9, .list ((s.ls 8).map I) false, I ((((s.ls 8).map I).length : Nat) : Int), I ((i : Nat) : Int), .bool true, .ro [I (((s.ls 8).getD i 0))] 0, I (((s.ls 8).getD i 0)), .ptr 0 0, .list ((s.objs).map E) false, I (((s.ls 8).getD i 0)), .ro (cO ((s.objs).getD (((s.ls 8).getD i 0)).toNat o0)) 0, .ro (cO ((s.objs).getD (((s.ls 8).getD i 0)).toNat o0)) 2, I (((s.objs).getD (((s.ls 8).getD i 0)).toNat o0) 2), .ptr 1 1, I ctl, .bool false, .agg (cS s), I (((s.ls 8).getD i 0)), .bool true, .bool true, I n, .bool false, .bool false, I n, .bool true, .bool true, .bool false, .bool false, .bool false, .bool false, I n, .bool true, .bool true, .bool false, .bool true, .bool true, .bool true, .bool true] ++ List.replicate 11 undefA ++ [.bool true, .bool true] ++ List.replicate 5 .opq ++ [undefA] : List AV) [.box (cS s) false, .box [I src, I ctl, I x2, I x3] false] (by kernel_rfl) (OK.nil ?_)
    refine X.condT (by kernel_rfl) ?_
    refine X.region (OK.seg 5 (by kernel_rfl) (OK.nil ?_))
    refine X.region ?_
    refine OK.val (I ((i + 1 : Nat) : Int)) (by kernel_rfl) (fun _ => add_op (k := .i64) (a := ((i : Nat) : Int)) (b := 1) rfl (by kernel_rfl) (by kernel_rfl) (by rw [wrap64] <;> first | omega | (have q := ids8 (by assumption) (by omega : i < _); omega))) ?_
    refine OK.seg 1 (by kernel_rfl) (OK.nil ?_)
    have hsk := fun (q : ¬ (grPr s n ctl src) ((s.ls 8).getD i 0)) => fskip h4 (by omega) q
    have had := fun (q : (grPr s n ctl src) ((s.ls 8).getD i 0)) => fadd h4 (by omega) q
    exact ⟨([.agg (cS s), I n, .agg [I src, I ctl, I x2, I x3], .ptr 0 0, undefA, .ptr 1 0, .list [] true, .sl 2 0 0 1, undefA, .opq, .opq, .list [] true, .agg (cS s), I (numS s), .bool false, undefA, .ptr 0 1, .ptr 0 9, .list ((s.ls 8).map I) false, I ((((s.ls 8).map I).length : Nat) : Int), I ((i + 1 : Nat) : Int)] ++ List.replicate 52 .opq ++ [undefA] : List AV), [.box (cS s) false, .box [I src, I ctl, I x2, I x3] false, .rows (([(((s.ls 8).getD i 0))]).map I) 0 1 false], [0, 1, 2, 0, 0], [[], [], []], by kernel_rfl, by kernel_rfl, by simp only [bS], by simp only [bS], by kernel_rfl, m6 - 1, by omega, i + 1, by omega, by omega, .inr ⟨[(s.ls 8).getD i 0], 0, 1, rfl, had (by first | (exfalso; omega) | exact ⟨by first | assumption | exact (by assumption : _ ∧ _).2, by omega⟩), by kernel_rfl, by kernel_rfl⟩⟩
   refine OK.seg 7 (by kernel_rfl) ?_
   refine OK.dec (n = 3) (by kernel_rfl) (by kernel_rfl) (fun h21 => ?_) (fun h21 => ?_)
   ·
    refine OK.seg 11 (by kernel_rfl) (OK.nil ?_)
    refine X.condF (by kernel_rfl) ?_
    refine X.skip (X.region ?_)
    refine OK.val (I ((i + 1 : Nat) : Int)) (by kernel_rfl) (fun _ => add_op (k := .i64) (a := ((i : Nat) : Int)) (b := 1) rfl (by kernel_rfl) (by kernel_rfl) (by rw [wrap64] <;> first | omega | (have q := ids8 (by assumption) (by omega : i < _); omega))) ?_
    refine OK.seg 1 (by kernel_rfl) (OK.nil ?_)
    have hsk := fun (q : ¬ (grPr s n ctl src) ((s.ls 8).getD i 0)) => fskip h4 (by omega) q
    have had := fun (q : (grPr s n ctl src) ((s.ls 8).getD i 0)) => fadd h4 (by omega) q
    exact ⟨([.agg (cS s), I n, .agg [I src, I ctl, I x2, I x3], .ptr 0 0, undefA, .ptr 1 0, .list [] true, .list [] true, undefA, .opq, .opq, .list [] true, .agg (cS s), I (numS s), .bool false, undefA, .ptr 0 1, .ptr 0 9, .list ((s.ls 8).map I) false, I ((((s.ls 8).map I).length : Nat) : Int), I ((i + 1 : Nat) : Int)] ++ List.replicate 52 .opq ++ [undefA] : List AV), [.box (cS s) false, .box [I src, I ctl, I x2, I x3] false], [0, 1, 0, 0], [[], []], by kernel_rfl, by kernel_rfl, by simp only [bS], by simp only [bS], by kernel_rfl, m6 - 1, by omega, i + 1, by omega, by omega, .inl ⟨hsk (by intro q; first | (exfalso; omega) | exact absurd q.1 (by assumption) | exact (show ¬ (rightS s ∧ cre s ((s.ls 8).getD i 0)) by assumption) ⟨by assumption, q.1⟩ | (have q2 := q.2; omega)), by kernel_rfl, by kernel_rfl⟩⟩
   refine OK.seg 11 (by kernel_rfl) (OK.nil ?_)
   refine X.condF (by kernel_rfl) ?_
   refine X.skip (X.region ?_)
   refine OK.val (I ((i + 1 : Nat) : Int)) (by kernel_rfl) (fun _ => add_op (k := .i64) (a := ((i : Nat) : Int)) (b := 1) rfl (by kernel_rfl) (by kernel_rfl) (by rw [wrap64] <;> first | omega | (have q := ids8 (by assumption) (by omega : i < _); omega))) ?_
   refine OK.seg 1 (by kernel_rfl) (OK.nil ?_)
   have hsk := fun (q : ¬ (grPr s n ctl src) ((s.ls 8).getD i 0)) => fskip h4 (by omega) q
   have had := fun (q : (grPr s n ctl src) ((s.ls 8).getD i 0)) => fadd h4 (by omega) q
   exact ⟨([.agg (cS s), I n, .agg [I src, I ctl, I x2, I x3], .ptr 0 0, undefA, .ptr 1 0, .list [] true, .list [] true, undefA, .opq, .opq, .list [] true, .agg (cS s), I (numS s), .bool false, undefA, .ptr 0 1, .ptr 0 9, .list ((s.ls 8).map I) false, I ((((s.ls 8).map I).length : Nat) : Int), I ((i + 1 : Nat) : Int)] ++ List.replicate 52 .opq ++ [undefA] : List AV), [.box (cS s) false, .box [I src, I ctl, I x2, I x3] false], [0, 1, 0, 0], [[], []], by kernel_rfl, by kernel_rfl, by simp only [bS], by simp only [bS], by kernel_rfl, m6 - 1, by omega, i + 1, by omega, by omega, .inl ⟨hsk (by intro q; first | (exfalso; omega) | exact absurd q.1 (by assumption) | exact (show ¬ (rightS s ∧ cre s ((s.ls 8).getD i 0)) by assumption) ⟨by assumption, q.1⟩ | (have q2 := q.2; omega)), by kernel_rfl, by kernel_rfl⟩⟩
  refine DK.seg 1 (by kernel_rfl) (DK.nil ?_)
  refine X.seq (X.region (OK.seg 2 (by kernel_rfl) ?_))
  refine OK.rdP [.agg (cS s), I (((s.ls 8).getD i 0))] [.agg (cS s), I (((s.ls 8).getD i 0))] (cre s (((s.ls 8).getD i 0))) rfl (by kernel_rfl) rfl (by kernel_rfl) (by kernel_rfl) (by kernel_rfl) (by kernel_rfl) (by kernel_rfl) (rIs_w _ _ _ _ hyp0 ((right_of (by assumption)).2.1) (by omega)) (fun h9 => ?_) (fun h9 => ?_)
  rotate_left
  ·
   refine OK.segE 32 ([.agg (cS s), I n, .agg [I src, I ctl, I x2, I x3], .ptr 0 0, undefA, .ptr 1 0, .list [] true, .list [] true, undefA, I (((s.ls 8).getD i 0)), .bool true, .list [] true, .agg (cS s), I (numS s), .bool false, undefA, .ptr 0 1, .ptr 0 9, .list ((s.ls 8).map I) false, I ((((s.ls 8).map I).length : Nat) : Int), I ((i : Nat) : Int), .bool true, .ro [I (((s.ls 8).getD i 0))] 0, I (((s.ls 8).getD i 0)), .ptr 0 0, .list ((s.objs).map E) false, I (((s.ls 8).getD i 0)), .ro (cO ((s.objs).getD (((s.ls 8).getD i 0)).toNat o0)) 0, .ro (cO ((s.objs).getD (((s.ls 8).getD i 0)).toNat o0)) 2, I (((s.objs).getD (((s.ls 8).getD i 0)).toNat o0) 2), .ptr 1 1, I ctl, .bool true, .agg (cS s), I (((s.ls 8).getD i 0)), .bool false, .bool false] ++ List.replicate 30 undefA ++ [.bool false] ++ List.replicate 5 .opq ++ [undefA] : List AV) [.box (cS s) false, .box [I src, I ctl, I x2, I x3] false] (by kernel_rfl) (OK.nil ?_)
   refine X.condF (by kernel_rfl) ?_
   refine X.skip (X.region ?_)
   refine OK.val (I ((i + 1 : Nat) : Int)) (by kernel_rfl) (fun _ => add_op (k := .i64) (a := ((i : Nat) : Int)) (b := 1) rfl (by kernel_rfl) (by kernel_rfl) (by rw [wrap64] <;> first | omega | (have q := ids8 (by assumption) (by omega : i < _); omega))) ?_
   refine OK.seg 1 (by kernel_rfl) (OK.nil ?_)
   have hsk := fun (q : ¬ (grPr s n ctl src) ((s.ls 8).getD i 0)) => fskip h4 (by omega) q
   have had := fun (q : (grPr s n ctl src) ((s.ls 8).getD i 0)) => fadd h4 (by omega) q
   exact ⟨([.agg (cS s), I n, .agg [I src, I ctl, I x2, I x3], .ptr 0 0, undefA, .ptr 1 0, .list [] true, .list [] true, undefA, .opq, .opq, .list [] true, .agg (cS s), I (numS s), .bool false, undefA, .ptr 0 1, .ptr 0 9, .list ((s.ls 8).map I) false, I ((((s.ls 8).map I).length : Nat) : Int), I ((i + 1 : Nat) : Int)] ++ List.replicate 52 .opq ++ [undefA] : List AV), [.box (cS s) false, .box [I src, I ctl, I x2, I x3] false], [0, 1, 0, 0], [[], []], by kernel_rfl, by kernel_rfl, by simp only [bS], by simp only [bS], by kernel_rfl, m6 - 1, by omega, i + 1, by omega, by omega, .inl ⟨hsk (by intro q; first | (exfalso; omega) | exact absurd q.1 (by assumption) | exact (show ¬ (rightS s ∧ cre s ((s.ls 8).getD i 0)) by assumption) ⟨by assumption, q.1⟩ | (have q2 := q.2; omega)), by kernel_rfl, by kernel_rfl⟩⟩
  refine OK.seg 2 (by kernel_rfl) ?_
  refine OK.dec (n = 0) (by kernel_rfl) (by kernel_rfl) (fun h10 => ?_) (fun h10 => ?_)
  ·
   refine OK.segE 29 ([.agg (cS s), I n, .agg [I src, I ctl, I x2, I x3], .ptr 0 0, undefA, .ptr 1 0, .list [] true, .list [] true, undefA, I (((s.ls 8).getD i 0)), .bool true, .list [] true, .agg (cS s), I (numS s), .bool false, undefA, .ptr 0 1, .ptr 0 9, .list ((s.ls 8).map I) false, I ((((s.ls 8).map I).length : Nat) : Int), I ((i : Nat) : Int), .bool true, .ro [I (((s.ls 8).getD i 0))] 0, I (((s.ls 8).getD i 0)), .ptr 0 0, .list ((s.objs).map E) false, I (((s.ls 8).getD i 0)), .ro (cO ((s.objs).getD (((s.ls 8).getD i 0)).toNat o0)) 0, .ro (cO ((s.objs).getD (((s.ls 8).getD i 0)).toNat o0)) 2, I (((s.objs).getD (((s.ls 8).getD i 0)).toNat o0) 2), .ptr 1 1, I ctl, .bool true, .agg (cS s), I (((s.ls 8).getD i 0)), .bool true, .bool true, I n, .bool true, .bool true] ++ List.replicate 5 undefA ++ [.bool true, .bool true] ++ List.replicate 6 undefA ++ [.bool true, .bool true] ++ List.replicate 11 undefA ++ [.bool true, .bool true] ++ List.replicate 5 .opq ++ [undefA] : List AV) [.box (cS s) false, .box [I src, I ctl, I x2, I x3] false] (by kernel_rfl) (OK.nil ?_)
   refine X.condT (by kernel_rfl) ?_
   refine X.region (OK.seg 5 (by kernel_rfl) (OK.nil ?_))
   refine X.region ?_
   refine OK.val (I ((i + 1 : Nat) : Int)) (by kernel_rfl) (fun _ => add_op (k := .i64) (a := ((i : Nat) : Int)) (b := 1) rfl (by kernel_rfl) (by kernel_rfl) (by rw [wrap64] <;> first | omega | (have q := ids8 (by assumption) (by omega : i < _); omega))) ?_
   refine OK.seg 1 (by kernel_rfl) (OK.nil ?_)
   have hsk := fun (q : ¬ (grPr s n ctl src) ((s.ls 8).getD i 0)) => fskip h4 (by omega) q
   have had := fun (q : (grPr s n ctl src) ((s.ls 8).getD i 0)) => fadd h4 (by omega) q
   exact ⟨([.agg (cS s), I n, .agg [I src, I ctl, I x2, I x3], .ptr 0 0, undefA, .ptr 1 0, .list [] true, .sl 2 0 0 1, undefA, .opq, .opq, .list [] true, .agg (cS s), I (numS s), .bool false, undefA, .ptr 0 1, .ptr 0 9, .list ((s.ls 8).map I) false, I ((((s.ls 8).map I).length : Nat) : Int), I ((i + 1 : Nat) : Int)] ++ List.replicate 52 .opq ++ [undefA] : List AV), [.box (cS s) false, .box [I src, I ctl, I x2, I x3] false, .rows (([(((s.ls 8).getD i 0))]).map I) 0 1 false], [0, 1, 2, 0, 0], [[], [], []], by kernel_rfl, by kernel_rfl, by simp only [bS], by simp only [bS], by kernel_rfl, m6 - 1, by omega, i + 1, by omega, by omega, .inr ⟨[(s.ls 8).getD i 0], 0, 1, rfl, had (by first | (exfalso; omega) | exact ⟨by first | assumption | exact (by assumption : _ ∧ _).2, by omega⟩), by kernel_rfl, by kernel_rfl⟩⟩
  refine OK.seg 2 (by kernel_rfl) ?_
  refine OK.dec (n = 1) (by kernel_rfl) (by kernel_rfl) (fun h11 => ?_) (fun h11 => ?_)
  ·
   refine OK.segE 26 ([.agg (cS s), I n, .agg [I src, I ctl, I x2, I x3], .ptr 0 0, undefA, .ptr 1 0, .list [] true, .list [] true, undefA, I (((s.ls 8).getD i 0)), .bool true, .list [] true, .agg (cS s), I (numS s), .bool false, undefA, .ptr 0 1, .ptr 0 9, .list ((s.ls 8).map I) false, I ((((s.ls 8).map I).length : Nat) : Int), I ((i : Nat) : Int), .bool true, .ro [I (((s.ls 8).getD i 0))] 0, I (((s.ls 8).getD i 0)), .ptr 0 0, .list ((s.objs).map E) false, I (((s.ls 8).getD i 0)), .ro (cO ((s.objs).getD (((s.ls 8).getD i 0)).toNat o0)) 0, .ro (cO ((s.objs).getD (((s.ls 8).getD i 0)).toNat o0)) 2, I (((s.objs).getD (((s.ls 8).getD i 0)).toNat o0) 2), .ptr 1 1, I ctl, .bool true, .agg (cS s), I (((s.ls 8).getD i 0)), .bool true, .bool true, I n, .bool false, .bool false, I n, .bool true, .bool true, .bool true, .bool true, .bool true, .bool true] ++ List.replicate 6 undefA ++ [.bool true, .bool true] ++ List.replicate 11 undefA ++ [.bool true, .bool true] ++ List.replicate 5 .opq ++ [undefA] : List AV) [.box (cS s) false, .box [I src, I ctl, I x2, I x3] false] (by kernel_rfl) (OK.nil ?_)
   refine X.condT (by kernel_rfl) ?_
   refine X.region (OK.seg 5 (by kernel_rfl) (OK.nil ?_))
   refine X.region ?_
   refine OK.val (I ((i + 1 : Nat) : Int)) (by kernel_rfl) (fun _ => add_op (k := .i64) (a := ((i : Nat) : Int)) (b := 1) rfl (by kernel_rfl) (by kernel_rfl) (by rw [wrap64] <;> first | omega | (have q := ids8 (by assumption) (by omega : i < _); omega))) ?_
   refine OK.seg 1 (by kernel_rfl) (OK.nil ?_)
   have hsk := fun (q : ¬ (grPr s n ctl src) ((s.ls 8).getD i 0)) => fskip h4 (by omega) q
   have had := fun (q : (grPr s n ctl src) ((s.ls 8).getD i 0)) => fadd h4 (by omega) q
   exact ⟨([.agg (cS s), I n, .agg [I src, I ctl, I x2, I x3], .ptr 0 0, undefA, .ptr 1 0, .list [] true, .sl 2 0 0 1, undefA, .opq, .opq, .list [] true, .agg (cS s), I (numS s), .bool false, undefA, .ptr 0 1, .ptr 0 9, .list ((s.ls 8).map I) false, I ((((s.ls 8).map I).length : Nat) : Int), I ((i + 1 : Nat) : Int)] ++ List.replicate 52 .opq ++ [undefA] : List AV), [.box (cS s) false, .box [I src, I ctl, I x2, I x3] false, .rows (([(((s.ls 8).getD i 0))]).map I) 0 1 false], [0, 1, 2, 0, 0], [[], [], []], by kernel_rfl, by kernel_rfl, by simp only [bS], by simp only [bS], by kernel_rfl, m6 - 1, by omega, i + 1, by omega, by omega, .inr ⟨[(s.ls 8).getD i 0], 0, 1, rfl, had (by first | (exfalso; omega) | exact ⟨by first | assumption | exact (by assumption : _ ∧ _).2, by omega⟩), by kernel_rfl, by kernel_rfl⟩⟩
  refine OK.seg 6 (by kernel_rfl) ?_
  refine OK.dec (n = 2) (by kernel_rfl) (by kernel_rfl) (fun h12 => ?_) (fun h12 => ?_)
  ·
   refine OK.seg 7 (by kernel_rfl) ?_
   refine OK.dec (n = 3) (by kernel_rfl) (by kernel_rfl) (fun h13 => ?_) (fun h13 => ?_)
   rotate_left
   ·
    refine OK.seg 11 (by kernel_rfl) (OK.nil ?_)
    refine X.condF (by kernel_rfl) ?_
    refine X.skip (X.region ?_)
    refine OK.val (I ((i + 1 : Nat) : Int)) (by kernel_rfl) (fun _ => add_op (k := .i64) (a := ((i : Nat) : Int)) (b := 1) rfl (by kernel_rfl) (by kernel_rfl) (by rw [wrap64] <;> first | omega | (have q := ids8 (by assumption) (by omega : i < _); omega))) ?_
    refine OK.seg 1 (by kernel_rfl) (OK.nil ?_)
    have hsk := fun (q : ¬ (grPr s n ctl src) ((s.ls 8).getD i 0)) => fskip h4 (by omega) q
    have had := fun (q : (grPr s n ctl src) ((s.ls 8).getD i 0)) => fadd h4 (by omega) q
    exact ⟨([.agg (cS s), I n, .agg [I src, I ctl, I x2, I x3], .ptr 0 0, undefA, .ptr 1 0, .list [] true, .list [] true, undefA, .opq, .opq, .list [] true, .agg (cS s), I (numS s), .bool false, undefA, .ptr 0 1, .ptr 0 9, .list ((s.ls 8).map I) false, I ((((s.ls 8).map I).length : Nat) : Int), I ((i + 1 : Nat) : Int)] ++ List.replicate 52 .opq ++ [undefA] : List AV), [.box (cS s) false, .box [I src, I ctl, I x2, I x3] false], [0, 1, 0, 0], [[], []], by kernel_rfl, by kernel_rfl, by simp only [bS], by simp only [bS], by kernel_rfl, m6 - 1, by omega, i + 1, by omega, by omega, .inl ⟨hsk (by intro q; first | (exfalso; omega) | exact absurd q.1 (by assumption) | exact (show ¬ (rightS s ∧ cre s ((s.ls 8).getD i 0)) by assumption) ⟨by assumption, q.1⟩ | (have q2 := q.2; omega)), by kernel_rfl, by kernel_rfl⟩⟩
   refine OK.seg 7 (by kernel_rfl) ?_
   refine OK.ndec ((((s.ls 8).getD i 0)) = src) (by kernel_rfl) (by kernel_rfl) (fun h14 => ?_) (fun h14 => ?_)
   rotate_left
   ·
    refine OK.seg 3 (by kernel_rfl) (OK.nil ?_)
    refine X.condF (by kernel_rfl) ?_
    refine X.skip (X.region ?_)
    refine OK.val (I ((i + 1 : Nat) : Int)) (by kernel_rfl) (fun _ => add_op (k := .i64) (a := ((i : Nat) : Int)) (b := 1) rfl (by kernel_rfl) (by kernel_rfl) (by rw [wrap64] <;> first | omega | (have q := ids8 (by assumption) (by omega : i < _); omega))) ?_
    refine OK.seg 1 (by kernel_rfl) (OK.nil ?_)
    have hsk := fun (q : ¬ (grPr s n ctl src) ((s.ls 8).getD i 0)) => fskip h4 (by omega) q
    have had := fun (q : (grPr s n ctl src) ((s.ls 8).getD i 0)) => fadd h4 (by omega) q
    exact ⟨([.agg (cS s), I n, .agg [I src, I ctl, I x2, I x3], .ptr 0 0, undefA, .ptr 1 0, .list [] true, .list [] true, undefA, .opq, .opq, .list [] true, .agg (cS s), I (numS s), .bool false, undefA, .ptr 0 1, .ptr 0 9, .list ((s.ls 8).map I) false, I ((((s.ls 8).map I).length : Nat) : Int), I ((i + 1 : Nat) : Int)] ++ List.replicate 52 .opq ++ [undefA] : List AV), [.box (cS s) false, .box [I src, I ctl, I x2, I x3] false], [0, 1, 0, 0], [[], []], by kernel_rfl, by kernel_rfl, by simp only [bS], by simp only [bS], by kernel_rfl, m6 - 1, by omega, i + 1, by omega, by omega, .inl ⟨hsk (by intro q; first | (exfalso; omega) | exact absurd q.1 (by assumption) | exact (show ¬ (rightS s ∧ cre s ((s.ls 8).getD i 0)) by assumption) ⟨by assumption, q.1⟩ | (have q2 := q.2; omega)), by kernel_rfl, by kernel_rfl⟩⟩
   refine OK.seg 3 (by kernel_rfl) (OK.nil ?_)
   refine X.condT (by kernel_rfl) ?_
   refine X.region (OK.seg 5 (by kernel_rfl) (OK.nil ?_))
   refine X.region ?_
   refine OK.val (I ((i + 1 : Nat) : Int)) (by kernel_rfl) (fun _ => add_op (k := .i64) (a := ((i : Nat) : Int)) (b := 1) rfl (by kernel_rfl) (by kernel_rfl) (by rw [wrap64] <;> first | omega | (have q := ids8 (by assumption) (by omega : i < _); omega))) ?_
   refine OK.seg 1 (by kernel_rfl) (OK.nil ?_)
   have hsk := fun (q : ¬ (grPr s n ctl src) ((s.ls 8).getD i 0)) => fskip h4 (by omega) q
   have had := fun (q : (grPr s n ctl src) ((s.ls 8).getD i 0)) => fadd h4 (by omega) q
   exact ⟨([.agg (cS s), I n, .agg [I src, I ctl, I x2, I x3], .ptr 0 0, undefA, .ptr 1 0, .list [] true, .sl 2 0 0 1, undefA, .opq, .opq, .list [] true, .agg (cS s), I (numS s), .bool false, undefA, .ptr 0 1, .ptr 0 9, .list ((s.ls 8).map I) false, I ((((s.ls 8).map I).length : Nat) : Int), I ((i + 1 : Nat) : Int)] ++ List.replicate 52 .opq ++ [undefA] : List AV), [.box (cS s) false, .box [I src, I ctl, I x2, I x3] false, .rows (([(((s.ls 8).getD i 0))]).map I) 0 1 false], [0, 1, 2, 0, 0], [[], [], []], by kernel_rfl, by kernel_rfl, by simp only [bS], by simp only [bS], by kernel_rfl, m6 - 1, by omega, i + 1, by omega, by omega, .inr ⟨[(s.ls 8).getD i 0], 0, 1, rfl, had (by first | (exfalso; omega) | exact ⟨by first | assumption | exact (by assumption : _ ∧ _).2, by omega⟩), by kernel_rfl, by kernel_rfl⟩⟩
  refine OK.seg 7 (by kernel_rfl) ?_
  refine OK.dec (n = 3) (by kernel_rfl) (by kernel_rfl) (fun h15 => ?_) (fun h15 => ?_)
  rotate_left
  ·
   refine OK.seg 11 (by kernel_rfl) (OK.nil ?_)
   refine X.condF (by kernel_rfl) ?_
   refine X.skip (X.region ?_)
   refine OK.val (I ((i + 1 : Nat) : Int)) (by kernel_rfl) (fun _ => add_op (k := .i64) (a := ((i : Nat) : Int)) (b := 1) rfl (by kernel_rfl) (by kernel_rfl) (by rw [wrap64] <;> first | omega | (have q := ids8 (by assumption) (by omega : i < _); omega))) ?_
   refine OK.seg 1 (by kernel_rfl) (OK.nil ?_)
   have hsk := fun (q : ¬ (grPr s n ctl src) ((s.ls 8).getD i 0)) => fskip h4 (by omega) q
   have had := fun (q : (grPr s n ctl src) ((s.ls 8).getD i 0)) => fadd h4 (by omega) q
   exact ⟨([.agg (cS s), I n, .agg [I src, I ctl, I x2, I x3], .ptr 0 0, undefA, .ptr 1 0, .list [] true, .list [] true, undefA, .opq, .opq, .list [] true, .agg (cS s), I (numS s), .bool false, undefA, .ptr 0 1, .ptr 0 9, .list ((s.ls 8).map I) false, I ((((s.ls 8).map I).length : Nat) : Int), I ((i + 1 : Nat) : Int)] ++ List.replicate 52 .opq ++ [undefA] : List AV), [.box (cS s) false, .box [I src, I ctl, I x2, I x3] false], [0, 1, 0, 0], [[], []], by kernel_rfl, by kernel_rfl, by simp only [bS], by simp only [bS], by kernel_rfl, m6 - 1, by omega, i + 1, by omega, by omega, .inl ⟨hsk (by intro q; first | (exfalso; omega) | exact absurd q.1 (by assumption) | exact (show ¬ (rightS s ∧ cre s ((s.ls 8).getD i 0)) by assumption) ⟨by assumption, q.1⟩ | (have q2 := q.2; omega)), by kernel_rfl, by kernel_rfl⟩⟩
  refine OK.seg 7 (by kernel_rfl) ?_
  refine OK.ndec ((((s.ls 8).getD i 0)) = src) (by kernel_rfl) (by kernel_rfl) (fun h16 => ?_) (fun h16 => ?_)
  rotate_left
  ·
   refine OK.seg 3 (by kernel_rfl) (OK.nil ?_)
   refine X.condF (by kernel_rfl) ?_
   refine X.skip (X.region ?_)
   refine OK.val (I ((i + 1 : Nat) : Int)) (by kernel_rfl) (fun _ => add_op (k := .i64) (a := ((i : Nat) : Int)) (b := 1) rfl (by kernel_rfl) (by kernel_rfl) (by rw [wrap64] <;> first | omega | (have q := ids8 (by assumption) (by omega : i < _); omega))) ?_
   refine OK.seg 1 (by kernel_rfl) (OK.nil ?_)
   have hsk := fun (q : ¬ (grPr s n ctl src) ((s.ls 8).getD i 0)) => fskip h4 (by omega) q
   have had := fun (q : (grPr s n ctl src) ((s.ls 8).getD i 0)) => fadd h4 (by omega) q
   exact ⟨([.agg (cS s), I n, .agg [I src, I ctl, I x2, I x3], .ptr 0 0, undefA, .ptr 1 0, .list [] true, .list [] true, undefA, .opq, .opq, .list [] true, .agg (cS s), I (numS s), .bool false, undefA, .ptr 0 1, .ptr 0 9, .list ((s.ls 8).map I) false, I ((((s.ls 8).map I).length : Nat) : Int), I ((i + 1 : Nat) : Int)] ++ List.replicate 52 .opq ++ [undefA] : List AV), [.box (cS s) false, .box [I src, I ctl, I x2, I x3] false], [0, 1, 0, 0], [[], []], by kernel_rfl, by kernel_rfl, by simp only [bS], by simp only [bS], by kernel_rfl, m6 - 1, by omega, i + 1, by omega, by omega, .inl ⟨hsk (by intro q; first | (exfalso; omega) | exact absurd q.1 (by assumption) | exact (show ¬ (rightS s ∧ cre s ((s.ls 8).getD i 0)) by assumption) ⟨by assumption, q.1⟩ | (have q2 := q.2; omega)), by kernel_rfl, by kernel_rfl⟩⟩
  refine OK.seg 3 (by kernel_rfl) (OK.nil ?_)
  refine X.condT (by kernel_rfl) ?_
  refine X.region (OK.seg 5 (by kernel_rfl) (OK.nil ?_))
  refine X.region ?_
  refine OK.val (I ((i + 1 : Nat) : Int)) (by kernel_rfl) (fun _ => add_op (k := .i64) (a := ((i : Nat) : Int)) (b := 1) rfl (by kernel_rfl) (by kernel_rfl) (by rw [wrap64] <;> first | omega | (have q := ids8 (by assumption) (by omega : i < _); omega))) ?_
  refine OK.seg 1 (by kernel_rfl) (OK.nil ?_)
  have hsk := fun (q : ¬ (grPr s n ctl src) ((s.ls 8).getD i 0)) => fskip h4 (by omega) q
  have had := fun (q : (grPr s n ctl src) ((s.ls 8).getD i 0)) => fadd h4 (by omega) q
  exact ⟨([.agg (cS s), I n, .agg [I src, I ctl, I x2, I x3], .ptr 0 0, undefA, .ptr 1 0, .list [] true, .sl 2 0 0 1, undefA, .opq, .opq, .list [] true, .agg (cS s), I (numS s), .bool false, undefA, .ptr 0 1, .ptr 0 9, .list ((s.ls 8).map I) false, I ((((s.ls 8).map I).length : Nat) : Int), I ((i + 1 : Nat) : Int)] ++ List.replicate 52 .opq ++ [undefA] : List AV), [.box (cS s) false, .box [I src, I ctl, I x2, I x3] false, .rows (([(((s.ls 8).getD i 0))]).map I) 0 1 false], [0, 1, 2, 0, 0], [[], [], []], by kernel_rfl, by kernel_rfl, by simp only [bS], by simp only [bS], by kernel_rfl, m6 - 1, by omega, i + 1, by omega, by omega, .inr ⟨[(s.ls 8).getD i 0], 0, 1, rfl, had (by first | (exfalso; omega) | exact ⟨by first | assumption | exact (by assumption : _ ∧ _).2, by omega⟩), by kernel_rfl, by kernel_rfl⟩⟩
 ·
  rw [h5]; clear h5
  have hyl := flt_len h4
  obtain ⟨k, rfl⟩ : ∃ k', k = k' + 60 := ⟨k - 60, by omega⟩
  refine X.seq (X.region ?_)
  refine OK.dec (((i : Nat) : Int) < ((((s.ls 8).map I).length : Nat) : Int)) (by kernel_rfl) (by kernel_rfl) (fun h24 => ?_) (fun h24 => ?_)
  rotate_left
  ·
   refine OK.nil ?_
   refine X.seq (X.condF (by kernel_rfl) ?_)
   refine X.exit ?_
   show X _ _ _ _ _ _ _ _ _
   refine X.seq (X.region (OK.seg 2 (by kernel_rfl) (OK.nil ?_)))
   refine X.ret ?_
   exact ⟨rfl, giv (gives_sl (g := I) (fun _ _ => rfl) (fun _ => rfl) (b := 2) (n := yg) (ys := ys) (sz := 1) (by kernel_rfl) (by kernel_rfl)) (by first | exact gr_wrong (by assumption) | exact gr_other (by omega) | exact gr_right (ys := ys) (by assumption) (flt_all (by assumption) (by omega)))⟩
  refine OK.nil ?_
  refine X.seq (X.condT (by kernel_rfl) ?_)
  refine X.skip (X.seq (X.block (X.seq (X.region ?_))))
  refine OK.val (.ro [I (((s.ls 8).getD i 0))] 0) (by kernel_rfl) (fun _ => idx_map (sz := 1) (g := I) (d := 0) (xs := s.ls 8) (ex := false) (k := .i64) (n := ((i : Nat) : Int)) rfl Tryz.underlying23 (by kernel_rfl) (by kernel_rfl) (by kernel_rfl) (by kernel_rfl) (by first | omega | (have q := ids8 (by assumption) (by omega : i < _); omega)) (by first | omega | (have q := ids8 (by assumption) (by omega : i < _); omega))) ?_
  refine OK.seg 2 (by kernel_rfl) (OK.nil ?_)
  refine X.seq (X.draw (by kernel_rfl) (by kernel_rfl) (by kernel_rfl) ?_)
  refine DK.seg 3 (by kernel_rfl) ?_
  refine DK.val (.ro (cO ((s.objs).getD (((s.ls 8).getD i 0)).toNat o0)) 0) (by kernel_rfl) (fun _ => idx_map (sz := 18) (g := E) (d := o0) (xs := s.objs) (ex := false) (k := .i64) (n := (((s.ls 8).getD i 0))) rfl Tryz.underlying22 (by kernel_rfl) (by kernel_rfl) (by kernel_rfl) (by kernel_rfl) (by first | omega | (have q := ids8 (by assumption) (by omega : i < _); omega)) (by first | omega | (have q := ids8 (by assumption) (by omega : i < _); omega))) ?_
  refine DK.seg 4 (by kernel_rfl) ?_
  refine DK.dec ((((s.objs).getD (((s.ls 8).getD i 0)).toNat o0) 2) = ctl) (by kernel_rfl) (by kernel_rfl) (fun h25 => ?_) (fun h25 => ?_)
  rotate_left
  ·
   refine DK.seg 1 (by kernel_rfl) (DK.nil ?_)
   refine X.seq (X.region (OK.seg 2 (by kernel_rfl) ?_))
   refine OK.rdP [.agg (cS s), I (((s.ls 8).getD i 0))] [.agg (cS s), I (((s.ls 8).getD i 0))] (cre s (((s.ls 8).getD i 0))) rfl (by kernel_rfl) rfl (by kernel_rfl) (by kernel_rfl) (by kernel_rfl) (by kernel_rfl) (by kernel_rfl) (rIs_w _ _ _ _ hyp0 ((right_of (by assumption)).2.1) (by omega)) (fun h34 => ?_) (fun h34 => ?_)
   rotate_left
   ·
    refine OK.segE 32 ([.agg (cS s), I n, .agg [I src, I ctl, I x2, I x3], .ptr 0 0, undefA, .ptr 1 0, .list [] true, .sl 2 yg 0 ys.length, undefA, I (((s.ls 8).getD i 0)), .bool false, .list [] true, .agg (cS s), I (numS s), .bool false, undefA, .ptr 0 1, .ptr 0 9, .list ((s.ls 8).map I) false, I ((((s.ls 8).map I).length : Nat) : Int), I ((i : Nat) : Int), .bool true, .ro [I (((s.ls 8).getD i 0))] 0, I (((s.ls 8).getD i 0)), .ptr 0 0, .list ((s.objs).map E) false, I (((s.ls 8).getD i 0)), .ro (cO ((s.objs).getD (((s.ls 8).getD i 0)).toNat o0)) 0, .ro (cO ((s.objs).getD (((s.ls 8).getD i 0)).toNat o0)) 2, I (((s.objs).getD (((s.ls 8).getD i 0)).toNat o0) 2), .ptr 1 1, I ctl, .bool false, .agg (cS s), I (((s.ls 8).getD i 0)), .bool false, .bool false] ++ List.replicate 30 undefA ++ [.bool false] ++ List.replicate 5 .opq ++ [undefA] : List AV) [.box (cS s) false, .box [I src, I ctl, I x2, I x3] false, .rows ((ys).map I) yg 1 false] (by kernel_rfl) (OK.nil ?_)
    refine X.condF (by kernel_rfl) ?_
    refine X.skip (X.region ?_)
    refine OK.val (I ((i + 1 : Nat) : Int)) (by kernel_rfl) (fun _ => add_op (k := .i64) (a := ((i : Nat) : Int)) (b := 1) rfl (by kernel_rfl) (by kernel_rfl) (by rw [wrap64] <;> first | omega | (have q := ids8 (by assumption) (by omega : i < _); omega))) ?_
    refine OK.seg 1 (by kernel_rfl) (OK.nil ?_)
    have hsk := fun (q : ¬ (grPr s n ctl src) ((s.ls 8).getD i 0)) => fskip h4 (by omega) q
    have had := fun (q : (grPr s n ctl src) ((s.ls 8).getD i 0)) => fadd h4 (by omega) q
    exact ⟨([.agg (cS s), I n, .agg [I src, I ctl, I x2, I x3], .ptr 0 0, undefA, .ptr 1 0, .list [] true, .sl 2 yg 0 ys.length, undefA, .opq, .opq, .list [] true, .agg (cS s), I (numS s), .bool false, undefA, .ptr 0 1, .ptr 0 9, .list ((s.ls 8).map I) false, I ((((s.ls 8).map I).length : Nat) : Int), I ((i + 1 : Nat) : Int)] ++ List.replicate 52 .opq ++ [undefA] : List AV), [.box (cS s) false, .box [I src, I ctl, I x2, I x3] false, .rows ((ys).map I) yg 1 false], [0, 1, 2, 0, 0], [[], [], []], by kernel_rfl, by kernel_rfl, by simp only [bS], by simp only [bS], by kernel_rfl, m6 - 1, by omega, i + 1, by omega, by omega, .inr ⟨ys, yg, ys.length, rfl, hsk (by intro q; first | (exfalso; omega) | exact absurd q.1 (by assumption) | exact (show ¬ (rightS s ∧ cre s ((s.ls 8).getD i 0)) by assumption) ⟨by assumption, q.1⟩ | (have q2 := q.2; omega)), by kernel_rfl, by kernel_rfl⟩⟩
   refine OK.seg 2 (by kernel_rfl) ?_
   refine OK.dec (n = 0) (by kernel_rfl) (by kernel_rfl) (fun h35 => ?_) (fun h35 => ?_)
   ·
    refine OK.segE 29 ([.agg (cS s), I n, .agg [I src, I ctl, I x2, I x3], .ptr 0 0, undefA, .ptr 1 0, .list [] true, .sl 2 yg 0 ys.length, undefA, I (((s.ls 8).getD i 0)), .bool false, .list [] true, .agg (cS s), I (numS s), .bool false, undefA, .ptr 0 1, .ptr 0 9, .list ((s.ls 8).map I) false, I ((((s.ls 8).map I).length : Nat) : Int), I ((i : Nat) : Int), .bool true, .ro [I (((s.ls 8).getD i 0))] 0, I (((s.ls 8).getD i 0)), .ptr 0 0, .list ((s.objs).map E) false, I (((s.ls 8).getD i 0)), .ro (cO ((s.objs).getD (((s.ls 8).getD i 0)).toNat o0)) 0, .ro (cO ((s.objs).getD (((s.ls 8).getD i 0)).toNat o0)) 2, I (((s.objs).getD (((s.ls 8).getD i 0)).toNat o0) 2), .ptr 1 1, I ctl, .bool false, .agg (cS s), I (((s.ls 8).getD i 0)), .bool true, .bool true, I n, .bool true, .bool true] ++ List.replicate 5 undefA ++ [.bool true, .bool true] ++ List.replicate 6 undefA ++ [.bool true, .bool true] ++ List.replicate 11 undefA ++ [.bool true, .bool true] ++ List.replicate 5 .opq ++ [undefA] : List AV) [.box (cS s) false, .box [I src, I ctl, I x2, I x3] false, .rows ((ys).map I) yg 1 false] (by kernel_rfl) (OK.nil ?_)
    refine X.condT (by kernel_rfl) ?_
    refine X.region (OK.seg 3 (by kernel_rfl) ?_)
    refine OK.opS (.sl 2 (yg + 1) 0 (ys.length + 1)) [.box (cS s) false, .box [I src, I ctl, I x2, I x3] false, .rows (((ys) ++ [(((s.ls 8).getD i 0))]).map I) (yg + 1) 1 false] (by kernel_rfl) (ap_sl (b := 2) (n := yg) (ex := true) (g := I) (ys := ys) (v := (((s.ls 8).getD i 0))) rfl rfl rfl rfl Tryz.underlying23 Tryz.underlying23 (by kernel_rfl) (by_ := 8) (by kernel_rfl) (z := I 0) (by kernel_rfl) rfl (by omega) (fun _ => rfl) (fun _ => rfl) (by kernel_rfl) (by kernel_rfl) (Nat.zero_le _) (ap_bd (by omega)) (by kernel_rfl)) ?_
    refine OK.seg 1 (by kernel_rfl) (OK.nil ?_)
    refine X.region ?_
    refine OK.val (I ((i + 1 : Nat) : Int)) (by kernel_rfl) (fun _ => add_op (k := .i64) (a := ((i : Nat) : Int)) (b := 1) rfl (by kernel_rfl) (by kernel_rfl) (by rw [wrap64] <;> first | omega | (have q := ids8 (by assumption) (by omega : i < _); omega))) ?_
    refine OK.seg 1 (by kernel_rfl) (OK.nil ?_)
    have hsk := fun (q : ¬ (grPr s n ctl src) ((s.ls 8).getD i 0)) => fskip h4 (by omega) q
    have had := fun (q : (grPr s n ctl src) ((s.ls 8).getD i 0)) => fadd h4 (by omega) q
    exact ⟨([.agg (cS s), I n, .agg [I src, I ctl, I x2, I x3], .ptr 0 0, undefA, .ptr 1 0, .list [] true, .sl 2 (yg + 1) 0 (ys.length + 1), undefA, .opq, .opq, .list [] true, .agg (cS s), I (numS s), .bool false, undefA, .ptr 0 1, .ptr 0 9, .list ((s.ls 8).map I) false, I ((((s.ls 8).map I).length : Nat) : Int), I ((i + 1 : Nat) : Int)] ++ List.replicate 52 .opq ++ [undefA] : List AV), [.box (cS s) false, .box [I src, I ctl, I x2, I x3] false, .rows (((ys) ++ [(((s.ls 8).getD i 0))]).map I) (yg + 1) 1 false], [0, 1, 2, 0, 0], [[], [], []], by kernel_rfl, by kernel_rfl, by simp only [bS], by simp only [bS], by kernel_rfl, m6 - 1, by omega, i + 1, by omega, by omega, .inr ⟨ys ++ [(s.ls 8).getD i 0], yg + 1, ys.length + 1, by simp, had (by first | (exfalso; omega) | exact ⟨by first | assumption | exact (by assumption : _ ∧ _).2, by omega⟩), by kernel_rfl, by kernel_rfl⟩⟩
   refine OK.seg 2 (by kernel_rfl) ?_
   refine OK.dec (n = 1) (by kernel_rfl) (by kernel_rfl) (fun h36 => ?_) (fun h36 => ?_)
   rotate_left
   ·
    refine OK.seg 6 (by kernel_rfl) ?_
    refine OK.dec (n = 2) (by kernel_rfl) (by kernel_rfl) (fun h39 => ?_) (fun h39 => ?_)
    rotate_left
    ·
     refine OK.seg 7 (by kernel_rfl) ?_
     refine OK.dec (n = 3) (by kernel_rfl) (by kernel_rfl) (fun h40 => ?_) (fun h40 => ?_)
     ·
      refine OK.seg 11 (by kernel_rfl) (OK.nil ?_)
      refine X.condF (by kernel_rfl) ?_
      refine X.skip (X.region ?_)
      refine OK.val (I ((i + 1 : Nat) : Int)) (by kernel_rfl) (fun _ => add_op (k := .i64) (a := ((i : Nat) : Int)) (b := 1) rfl (by kernel_rfl) (by kernel_rfl) (by rw [wrap64] <;> first | omega | (have q := ids8 (by assumption) (by omega : i < _); omega))) ?_
      refine OK.seg 1 (by kernel_rfl) (OK.nil ?_)
      have hsk := fun (q : ¬ (grPr s n ctl src) ((s.ls 8).getD i 0)) => fskip h4 (by omega) q
      have had := fun (q : (grPr s n ctl src) ((s.ls 8).getD i 0)) => fadd h4 (by omega) q
      exact ⟨([.agg (cS s), I n, .agg [I src, I ctl, I x2, I x3], .ptr 0 0, undefA, .ptr 1 0, .list [] true, .sl 2 yg 0 ys.length, undefA, .opq, .opq, .list [] true, .agg (cS s), I (numS s), .bool false, undefA, .ptr 0 1, .ptr 0 9, .list ((s.ls 8).map I) false, I ((((s.ls 8).map I).length : Nat) : Int), I ((i + 1 : Nat) : Int)] ++ List.replicate 52 .opq ++ [undefA] : List AV), [.box (cS s) false, .box [I src, I ctl, I x2, I x3] false, .rows ((ys).map I) yg 1 false], [0, 1, 2, 0, 0], [[], [], []], by kernel_rfl, by kernel_rfl, by simp only [bS], by simp only [bS], by kernel_rfl, m6 - 1, by omega, i + 1, by omega, by omega, .inr ⟨ys, yg, ys.length, rfl, hsk (by intro q; first | (exfalso; omega) | exact absurd q.1 (by assumption) | exact (show ¬ (rightS s ∧ cre s ((s.ls 8).getD i 0)) by assumption) ⟨by assumption, q.1⟩ | (have q2 := q.2; omega)), by kernel_rfl, by kernel_rfl⟩⟩
     refine OK.seg 11 (by kernel_rfl) (OK.nil ?_)
     refine X.condF (by kernel_rfl) ?_
     refine X.skip (X.region ?_)
     refine OK.val (I ((i + 1 : Nat) : Int)) (by kernel_rfl) (fun _ => add_op (k := .i64) (a := ((i : Nat) : Int)) (b := 1) rfl (by kernel_rfl) (by kernel_rfl) (by rw [wrap64] <;> first | omega | (have q := ids8 (by assumption) (by omega : i < _); omega))) ?_
     refine OK.seg 1 (by kernel_rfl) (OK.nil ?_)
     have hsk := fun (q : ¬ (grPr s n ctl src) ((s.ls 8).getD i 0)) => fskip h4 (by omega) q
     have had := fun (q : (grPr s n ctl src) ((s.ls 8).getD i 0)) => fadd h4 (by omega) q
     exact ⟨([.agg (cS s), I n, .agg [I src, I ctl, I x2, I x3], .ptr 0 0, undefA, .ptr 1 0, .list [] true, .sl 2 yg 0 ys.length, undefA, .opq, .opq, .list [] true, .agg (cS s), I (numS s), .bool false, undefA, .ptr 0 1, .ptr 0 9, .list ((s.ls 8).map I) false, I ((((s.ls 8).map I).length : Nat) : Int), I ((i + 1 : Nat) : Int)] ++ List.replicate 52 .opq ++ [undefA] : List AV), [.box (cS s) false, .box [I src, I ctl, I x2, I x3] false, .rows ((ys).map I) yg 1 false], [0, 1, 2, 0, 0], [[], [], []], by kernel_rfl, by kernel_rfl, by simp only [bS], by simp only [bS], by kernel_rfl, m6 - 1, by omega, i + 1, by omega, by omega, .inr ⟨ys, yg, ys.length, rfl, hsk (by intro q; first | (exfalso; omega) | exact absurd q.1 (by assumption) | exact (show ¬ (rightS s ∧ cre s ((s.ls 8).getD i 0)) by assumption) ⟨by assumption, q.1⟩ | (have q2 := q.2; omega)), by kernel_rfl, by kernel_rfl⟩⟩
    refine OK.segE 19 ([.agg (cS s), I n, .agg [I src, I ctl, I x2, I x3], .ptr 0 0, undefA, .ptr 1 0, .list [] true, .sl 2 yg 0 ys.length, undefA, I (((s.ls 8).getD i 0)), .bool false, .list [] true, .agg (cS s), I (numS s), .bool false, undefA, .ptr 0 1, .ptr 0 9, .list ((s.ls 8).map I) false, I ((((s.ls 8).map I).length : Nat) : Int), I ((i : Nat) : Int), .bool true, .ro [I (((s.ls 8).getD i 0))] 0, I (((s.ls 8).getD i 0)), .ptr 0 0, .list ((s.objs).map E) false, I (((s.ls 8).getD i 0)), .ro (cO ((s.objs).getD (((s.ls 8).getD i 0)).toNat o0)) 0, .ro (cO ((s.objs).getD (((s.ls 8).getD i 0)).toNat o0)) 2, I (((s.objs).getD (((s.ls 8).getD i 0)).toNat o0) 2), .ptr 1 1, I ctl, .bool false, .agg (cS s), I (((s.ls 8).getD i 0)), .bool true, .bool true, I n, .bool false, .bool false, I n, .bool false, .bool false, undefA, .bool false, .bool false, .bool false, I n, .bool true, .bool true, .bool false, .bool true, .bool true, .bool true, .bool true] ++ List.replicate 11 undefA ++ [.bool true, .bool true] ++ List.replicate 5 .opq ++ [undefA] : List AV) [.box (cS s) false, .box [I src, I ctl, I x2, I x3] false, .rows ((ys).map I) yg 1 false] (by kernel_rfl) (OK.nil ?_)
    refine X.condT (by kernel_rfl) ?_
    refine X.region (OK.seg 3 (by kernel_rfl) ?_)
    refine OK.opS (.sl 2 (yg + 1) 0 (ys.length + 1)) [.box (cS s) false, .box [I src, I ctl, I x2, I x3] false, .rows (((ys) ++ [(((s.ls 8).getD i 0))]).map I) (yg + 1) 1 false] (by kernel_rfl) (ap_sl (b := 2) (n := yg) (ex := true) (g := I) (ys := ys) (v := (((s.ls 8).getD i 0))) rfl rfl rfl rfl Tryz.underlying23 Tryz.underlying23 (by kernel_rfl) (by_ := 8) (by kernel_rfl) (z := I 0) (by kernel_rfl) rfl (by omega) (fun _ => rfl) (fun _ => rfl) (by kernel_rfl) (by kernel_rfl) (Nat.zero_le _) (ap_bd (by omega)) (by kernel_rfl)) ?_
    refine OK.seg 1 (by kernel_rfl) (OK.nil ?_)
    refine X.region ?_
    refine OK.val (I ((i + 1 : Nat) : Int)) (by kernel_rfl) (fun _ => add_op (k := .i64) (a := ((i : Nat) : Int)) (b := 1) rfl (by kernel_rfl) (by kernel_rfl) (by rw [wrap64] <;> first | omega | (have q := ids8 (by assumption) (by omega : i < _); omega))) ?_
    refine OK.seg 1 (by kernel_rfl) (OK.nil ?_)
    have hsk := fun (q : ¬ (grPr s n ctl src) ((s.ls 8).getD i 0)) => fskip h4 (by omega) q
    have had := fun (q : (grPr s n ctl src) ((s.ls 8).getD i 0)) => fadd h4 (by omega) q
    exact ⟨([.agg (cS s), I n, .agg [I src, I ctl, I x2, I x3], .ptr 0 0, undefA, .ptr 1 0, .list [] true, .sl 2 (yg + 1) 0 (ys.length + 1), undefA, .opq, .opq, .list [] true, .agg (cS s), I (numS s), .bool false, undefA, .ptr 0 1, .ptr 0 9, .list ((s.ls 8).map I) false, I ((((s.ls 8).map I).length : Nat) : Int), I ((i + 1 : Nat) : Int)] ++ List.replicate 52 .opq ++ [undefA] : List AV), [.box (cS s) false, .box [I src, I ctl, I x2, I x3] false, .rows (((ys) ++ [(((s.ls 8).getD i 0))]).map I) (yg + 1) 1 false], [0, 1, 2, 0, 0], [[], [], []], by kernel_rfl, by kernel_rfl, by simp only [bS], by simp only [bS], by kernel_rfl, m6 - 1, by omega, i + 1, by omega, by omega, .inr ⟨ys ++ [(s.ls 8).getD i 0], yg + 1, ys.length + 1, by simp, had (by first | (exfalso; omega) | exact ⟨by first | assumption | exact (by assumption : _ ∧ _).2, by omega⟩), by kernel_rfl, by kernel_rfl⟩⟩
   refine OK.seg 6 (by kernel_rfl) ?_
   refine OK.dec (n = 2) (by kernel_rfl) (by kernel_rfl) (fun h37 => ?_) (fun h37 => ?_)
   rotate_left
   ·
    refine OK.seg 7 (by kernel_rfl) ?_
    refine OK.dec (n = 3) (by kernel_rfl) (by kernel_rfl) (fun h38 => ?_) (fun h38 => ?_)
    ·
     refine OK.seg 11 (by kernel_rfl) (OK.nil ?_)
     refine X.condF (by kernel_rfl) ?_
     refine X.skip (X.region ?_)
     refine OK.val (I ((i + 1 : Nat) : Int)) (by kernel_rfl) (fun _ => add_op (k := .i64) (a := ((i : Nat) : Int)) (b := 1) rfl (by kernel_rfl) (by kernel_rfl) (by rw [wrap64] <;> first | omega | (have q := ids8 (by assumption) (by omega : i < _); omega))) ?_
     refine OK.seg 1 (by kernel_rfl) (OK.nil ?_)
     have hsk := fun (q : ¬ (grPr s n ctl src) ((s.ls 8).getD i 0)) => fskip h4 (by omega) q
     have had := fun (q : (grPr s n ctl src) ((s.ls 8).getD i 0)) => fadd h4 (by omega) q
     exact ⟨([.agg (cS s), I n, .agg [I src, I ctl, I x2, I x3], .ptr 0 0, undefA, .ptr 1 0, .list [] true, .sl 2 yg 0 ys.length, undefA, .opq, .opq, .list [] true, .agg (cS s), I (numS s), .bool false, undefA, .ptr 0 1, .ptr 0 9, .list ((s.ls 8).map I) false, I ((((s.ls 8).map I).length : Nat) : Int), I ((i + 1 : Nat) : Int)] ++ List.replicate 52 .opq ++ [undefA] : List AV), [.box (cS s) false, .box [I src, I ctl, I x2, I x3] false, .rows ((ys).map I) yg 1 false], [0, 1, 2, 0, 0], [[], [], []], by kernel_rfl, by kernel_rfl, by simp only [bS], by simp only [bS], by kernel_rfl, m6 - 1, by omega, i + 1, by omega, by omega, .inr ⟨ys, yg, ys.length, rfl, hsk (by intro q; first | (exfalso; omega) | exact absurd q.1 (by assumption) | exact (show ¬ (rightS s ∧ cre s ((s.ls 8).getD i 0)) by assumption) ⟨by assumption, q.1⟩ | (have q2 := q.2; omega)), by kernel_rfl, by kernel_rfl⟩⟩
    refine OK.seg 11 (by kernel_rfl) (OK.nil ?_)
    refine X.condF (by kernel_rfl) ?_
    refine X.skip (X.region ?_)
    refine OK.val (I ((i + 1 : Nat) : Int)) (by kernel_rfl) (fun _ => add_op (k := .i64) (a := ((i : Nat) : Int)) (b := 1) rfl (by kernel_rfl) (by kernel_rfl) (by rw [wrap64] <;> first | omega | (have q := ids8 (by assumption) (by omega : i < _); omega))) ?_
    refine OK.seg 1 (by kernel_rfl) (OK.nil ?_)
    have hsk := fun (q : ¬ (grPr s n ctl src) ((s.ls 8).getD i 0)) => fskip h4 (by omega) q
    have had := fun (q : (grPr s n ctl src) ((s.ls 8).getD i 0)) => fadd h4 (by omega) q
    exact ⟨([.agg (cS s), I n, .agg [I src, I ctl, I x2, I x3], .ptr 0 0, undefA, .ptr 1 0, .list [] true, .sl 2 yg 0 ys.length, undefA, .opq, .opq, .list [] true, .agg (cS s), I (numS s), .bool false, undefA, .ptr 0 1, .ptr 0 9, .list ((s.ls 8).map I) false, I ((((s.ls 8).map I).length : Nat) : Int), I ((i + 1 : Nat) : Int)] ++ List.replicate 52 .opq ++ [undefA] : List AV), [.box (cS s) false, .box [I src, I ctl, I x2, I x3] false, .rows ((ys).map I) yg 1 false], [0, 1, 2, 0, 0], [[], [], []], by kernel_rfl, by kernel_rfl, by simp only [bS], by simp only [bS], by kernel_rfl, m6 - 1, by omega, i + 1, by omega, by omega, .inr ⟨ys, yg, ys.length, rfl, hsk (by intro q; first | (exfalso; omega) | exact absurd q.1 (by assumption) | exact (show ¬ (rightS s ∧ cre s ((s.ls 8).getD i 0)) by assumption) ⟨by assumption, q.1⟩ | (have q2 := q.2; omega)), by kernel_rfl, by kernel_rfl⟩⟩
   refine OK.segE 19 ([.agg (cS s), I n, .agg [I src, I ctl, I x2, I x3], .ptr 0 0, undefA, .ptr 1 0, .list [] true, .sl 2 yg 0 ys.length, undefA, I (((s.ls 8).getD i 0)), .bool false, .list [] true, .agg (cS s), I (numS s), .bool false, undefA, .ptr 0 1, .ptr 0 9, .list ((s.ls 8).map I) false, I ((((s.ls 8).map I).length : Nat) : Int), I ((i : Nat) : Int), .bool true, .ro [I (((s.ls 8).getD i 0))] 0, I (((s.ls 8).getD i 0)), .ptr 0 0, .list ((s.objs).map E) false, I (((s.ls 8).getD i 0)), .ro (cO ((s.objs).getD (((s.ls 8).getD i 0)).toNat o0)) 0, .ro (cO ((s.objs).getD (((s.ls 8).getD i 0)).toNat o0)) 2, I (((s.objs).getD (((s.ls 8).getD i 0)).toNat o0) 2), .ptr 1 1, I ctl, .bool false, .agg (cS s), I (((s.ls 8).getD i 0)), .bool true, .bool true, I n, .bool false, .bool false, I n, .bool true, .bool true, .bool false, .bool false, .bool false, .bool false, I n, .bool true, .bool true, .bool false, .bool true, .bool true, .bool true, .bool true] ++ List.replicate 11 undefA ++ [.bool true, .bool true] ++ List.replicate 5 .opq ++ [undefA] : List AV) [.box (cS s) false, .box [I src, I ctl, I x2, I x3] false, .rows ((ys).map I) yg 1 false] (by kernel_rfl) (OK.nil ?_)
   refine X.condT (by kernel_rfl) ?_
   refine X.region (OK.seg 3 (by kernel_rfl) ?_)
   refine OK.opS (.sl 2 (yg + 1) 0 (ys.length + 1)) [.box (cS s) false, .box [I src, I ctl, I x2, I x3] false, .rows (((ys) ++ [(((s.ls 8).getD i 0))]).map I) (yg + 1) 1 false] (by kernel_rfl) (ap_sl (b := 2) (n := yg) (ex := true) (g := I) (ys := ys) (v := (((s.ls 8).getD i 0))) rfl rfl rfl rfl Tryz.underlying23 Tryz.underlying23 (by kernel_rfl) (by_ := 8) (by kernel_rfl) (z := I 0) (by kernel_rfl) rfl (by omega) (fun _ => rfl) (fun _ => rfl) (by kernel_rfl) (by kernel_rfl) (Nat.zero_le _) (ap_bd (by omega)) (by kernel_rfl)) ?_
   refine OK.seg 1 (by kernel_rfl) (OK.nil ?_)
   refine X.region ?_
   refine OK.val (I ((i + 1 : Nat) : Int)) (by kernel_rfl) (fun _ => add_op (k := .i64) (a := ((i : Nat) : Int)) (b := 1) rfl (by kernel_rfl) (by kernel_rfl) (by rw [wrap64] <;> first | omega | (have q := ids8 (by assumption) (by omega : i < _); omega))) ?_
   refine OK.seg 1 (by kernel_rfl) (OK.nil ?_)
   have hsk := fun (q : ¬ (grPr s n ctl src) ((s.ls 8).getD i 0)) => fskip h4 (by omega) q
   have had := fun (q : (grPr s n ctl src) ((s.ls 8).getD i 0)) => fadd h4 (by omega) q
   exact ⟨([.agg (cS s), I n, .agg [I src, I ctl, I x2, I x3], .ptr 0 0, undefA, .ptr 1 0, .list [] true, .sl 2 (yg + 1) 0 (ys.length + 1), undefA, .opq, .opq, .list [] true, .agg (cS s), I (numS s), .bool false, undefA, .ptr 0 1, .ptr 0 9, .list ((s.ls 8).map I) false, I ((((s.ls 8).map I).length : Nat) : Int), I ((i + 1 : Nat) : Int)] ++ List.replicate 52 .opq ++ [undefA] : List AV), [.box (cS s) false, .box [I src, I ctl, I x2, I x3] false, .rows (((ys) ++ [(((s.ls 8).getD i 0))]).map I) (yg + 1) 1 false], [0, 1, 2, 0, 0], [[], [], []], by kernel_rfl, by kernel_rfl, by simp only [bS], by simp only [bS], by kernel_rfl, m6 - 1, by omega, i + 1, by omega, by omega, .inr ⟨ys ++ [(s.ls 8).getD i 0], yg + 1, ys.length + 1, by simp, had (by first | (exfalso; omega) | exact ⟨by first | assumption | exact (by assumption : _ ∧ _).2, by omega⟩), by kernel_rfl, by kernel_rfl⟩⟩
  refine DK.seg 1 (by kernel_rfl) (DK.nil ?_)
  refine X.seq (X.region (OK.seg 2 (by kernel_rfl) ?_))
  refine OK.rdP [.agg (cS s), I (((s.ls 8).getD i 0))] [.agg (cS s), I (((s.ls 8).getD i 0))] (cre s (((s.ls 8).getD i 0))) rfl (by kernel_rfl) rfl (by kernel_rfl) (by kernel_rfl) (by kernel_rfl) (by kernel_rfl) (by kernel_rfl) (rIs_w _ _ _ _ hyp0 ((right_of (by assumption)).2.1) (by omega)) (fun h26 => ?_) (fun h26 => ?_)
  rotate_left
  ·
   refine OK.segE 32 ([.agg (cS s), I n, .agg [I src, I ctl, I x2, I x3], .ptr 0 0, undefA, .ptr 1 0, .list [] true, .sl 2 yg 0 ys.length, undefA, I (((s.ls 8).getD i 0)), .bool true, .list [] true, .agg (cS s), I (numS s), .bool false, undefA, .ptr 0 1, .ptr 0 9, .list ((s.ls 8).map I) false, I ((((s.ls 8).map I).length : Nat) : Int), I ((i : Nat) : Int), .bool true, .ro [I (((s.ls 8).getD i 0))] 0, I (((s.ls 8).getD i 0)), .ptr 0 0, .list ((s.objs).map E) false, I (((s.ls 8).getD i 0)), .ro (cO ((s.objs).getD (((s.ls 8).getD i 0)).toNat o0)) 0, .ro (cO ((s.objs).getD (((s.ls 8).getD i 0)).toNat o0)) 2, I (((s.objs).getD (((s.ls 8).getD i 0)).toNat o0) 2), .ptr 1 1, I ctl, .bool true, .agg (cS s), I (((s.ls 8).getD i 0)), .bool false, .bool false] ++ List.replicate 30 undefA ++ [.bool false] ++ List.replicate 5 .opq ++ [undefA] : List AV) [.box (cS s) false, .box [I src, I ctl, I x2, I x3] false, .rows ((ys).map I) yg 1 false] (by kernel_rfl) (OK.nil ?_)
   refine X.condF (by kernel_rfl) ?_
   refine X.skip (X.region ?_)
   refine OK.val (I ((i + 1 : Nat) : Int)) (by kernel_rfl) (fun _ => add_op (k := .i64) (a := ((i : Nat) : Int)) (b := 1) rfl (by kernel_rfl) (by kernel_rfl) (by rw [wrap64] <;> first | omega | (have q := ids8 (by assumption) (by omega : i < _); omega))) ?_
   refine OK.seg 1 (by kernel_rfl) (OK.nil ?_)
   have hsk := fun (q : ¬ (grPr s n ctl src) ((s.ls 8).getD i 0)) => fskip h4 (by omega) q
   have had := fun (q : (grPr s n ctl src) ((s.ls 8).getD i 0)) => fadd h4 (by omega) q
   exact ⟨([.agg (cS s), I n, .agg [I src, I ctl, I x2, I x3], .ptr 0 0, undefA, .ptr 1 0, .list [] true, .sl 2 yg 0 ys.length, undefA, .opq, .opq, .list [] true, .agg (cS s), I (numS s), .bool false, undefA, .ptr 0 1, .ptr 0 9, .list ((s.ls 8).map I) false, I ((((s.ls 8).map I).length : Nat) : Int), I ((i + 1 : Nat) : Int)] ++ List.replicate 52 .opq ++ [undefA] : List AV), [.box (cS s) false, .box [I src, I ctl, I x2, I x3] false, .rows ((ys).map I) yg 1 false], [0, 1, 2, 0, 0], [[], [], []], by kernel_rfl, by kernel_rfl, by simp only [bS], by simp only [bS], by kernel_rfl, m6 - 1, by omega, i + 1, by omega, by omega, .inr ⟨ys, yg, ys.length, rfl, hsk (by intro q; first | (exfalso; omega) | exact absurd q.1 (by assumption) | exact (show ¬ (rightS s ∧ cre s ((s.ls 8).getD i 0)) by assumption) ⟨by assumption, q.1⟩ | (have q2 := q.2; omega)), by kernel_rfl, by kernel_rfl⟩⟩
  refine OK.seg 2 (by kernel_rfl) ?_
  refine OK.dec (n = 0) (by kernel_rfl) (by kernel_rfl) (fun h27 => ?_) (fun h27 => ?_)
  ·
   refine OK.segE 29 ([.agg (cS s), I n, .agg [I src, I ctl, I x2, I x3], .ptr 0 0, undefA, .ptr 1 0, .list [] true, .sl 2 yg 0 ys.length, undefA, I (((s.ls 8).getD i 0)), .bool true, .list [] true, .agg (cS s), I (numS s), .bool false, undefA, .ptr 0 1, .ptr 0 9, .list ((s.ls 8).map I) false, I ((((s.ls 8).map I).length : Nat) : Int), I ((i : Nat) : Int), .bool true, .ro [I (((s.ls 8).getD i 0))] 0, I (((s.ls 8).getD i 0)), .ptr 0 0, .list ((s.objs).map E) false, I (((s.ls 8).getD i 0)), .ro (cO ((s.objs).getD (((s.ls 8).getD i 0)).toNat o0)) 0, .ro (cO ((s.objs).getD (((s.ls 8).getD i 0)).toNat o0)) 2, I (((s.objs).getD (((s.ls 8).getD i 0)).toNat o0) 2), .ptr 1 1, I ctl, .bool true, .agg (cS s), I (((s.ls 8).getD i 0)), .bool true, .bool true, I n, .bool true, .bool true] ++ List.replicate 5 undefA ++ [.bool true, .bool true] ++ List.replicate 6 undefA ++ [.bool true, .bool true] ++ List.replicate 11 undefA ++ [.bool true, .bool true] ++ List.replicate 5 .opq ++ [undefA] : List AV) [.box (cS s) false, .box [I src, I ctl, I x2, I x3] false, .rows ((ys).map I) yg 1 false] (by kernel_rfl) (OK.nil ?_)
   refine X.condT (by kernel_rfl) ?_
   refine X.region (OK.seg 3 (by kernel_rfl) ?_)
   refine OK.opS (.sl 2 (yg + 1) 0 (ys.length + 1)) [.box (cS s) false, .box [I src, I ctl, I x2, I x3] false, .rows (((ys) ++ [(((s.ls 8).getD i 0))]).map I) (yg + 1) 1 false] (by kernel_rfl) (ap_sl (b := 2) (n := yg) (ex := true) (g := I) (ys := ys) (v := (((s.ls 8).getD i 0))) rfl rfl rfl rfl Tryz.underlying23 Tryz.underlying23 (by kernel_rfl) (by_ := 8) (by kernel_rfl) (z := I 0) (by kernel_rfl) rfl (by omega) (fun _ => rfl) (fun _ => rfl) (by kernel_rfl) (by kernel_rfl) (Nat.zero_le _) (ap_bd (by omega)) (by kernel_rfl)) ?_
   refine OK.seg 1 (by kernel_rfl) (OK.nil ?_)
   refine X.region ?_
   refine OK.val (I ((i + 1 : Nat) : Int)) (by kernel_rfl) (fun _ => add_op (k := .i64) (a := ((i : Nat) : Int)) (b := 1) rfl (by kernel_rfl) (by kernel_rfl) (by rw [wrap64] <;> first | omega | (have q := ids8 (by assumption) (by omega : i < _); omega))) ?_
   refine OK.seg 1 (by kernel_rfl) (OK.nil ?_)
   have hsk := fun (q : ¬ (grPr s n ctl src) ((s.ls 8).getD i 0)) => fskip h4 (by omega) q
   have had := fun (q : (grPr s n ctl src) ((s.ls 8).getD i 0)) => fadd h4 (by omega) q
   exact ⟨([.agg (cS s), I n, .agg [I src, I ctl, I x2, I x3], .ptr 0 0, undefA, .ptr 1 0, .list [] true, .sl 2 (yg + 1) 0 (ys.length + 1), undefA, .opq, .opq, .list [] true, .agg (cS s), I (numS s), .bool false, undefA, .ptr 0 1, .ptr 0 9, .list ((s.ls 8).map I) false, I ((((s.ls 8).map I).length : Nat) : Int), I ((i + 1 : Nat) : Int)] ++ List.replicate 52 .opq ++ [undefA] : List AV), [.box (cS s) false, .box [I src, I ctl, I x2, I x3] false, .rows (((ys) ++ [(((s.ls 8).getD i 0))]).map I) (yg + 1) 1 false], [0, 1, 2, 0, 0], [[], [], []], by kernel_rfl, by kernel_rfl, by simp only [bS], by simp only [bS], by kernel_rfl, m6 - 1, by omega, i + 1, by omega, by omega, .inr ⟨ys ++ [(s.ls 8).getD i 0], yg + 1, ys.length + 1, by simp, had (by first | (exfalso; omega) | exact ⟨by first | assumption | exact (by assumption : _ ∧ _).2, by omega⟩), by kernel_rfl, by kernel_rfl⟩⟩
  refine OK.seg 2 (by kernel_rfl) ?_
  refine OK.dec (n = 1) (by kernel_rfl) (by kernel_rfl) (fun h28 => ?_) (fun h28 => ?_)
  ·
   refine OK.segE 26 ([.agg (cS s), I n, .agg [I src, I ctl, I x2, I x3], .ptr 0 0, undefA, .ptr 1 0, .list [] true, .sl 2 yg 0 ys.length, undefA, I (((s.ls 8).getD i 0)), .bool true, .list [] true, .agg (cS s), I (numS s), .bool false, undefA, .ptr 0 1, .ptr 0 9, .list ((s.ls 8).map I) false, I ((((s.ls 8).map I).length : Nat) : Int), I ((i : Nat) : Int), .bool true, .ro [I (((s.ls 8).getD i 0))] 0, I (((s.ls 8).getD i 0)), .ptr 0 0, .list ((s.objs).map E) false, I (((s.ls 8).getD i 0)), .ro (cO ((s.objs).getD (((s.ls 8).getD i 0)).toNat o0)) 0, .ro (cO ((s.objs).getD (((s.ls 8).getD i 0)).toNat o0)) 2, I (((s.objs).getD (((s.ls 8).getD i 0)).toNat o0) 2), .ptr 1 1, I ctl, .bool true, .agg (cS s), I (((s.ls 8).getD i 0)), .bool true, .bool true, I n, .bool false, .bool false, I n, .bool true, .bool true, .bool true, .bool true, .bool true, .bool true] ++ List.replicate 6 undefA ++ [.bool true, .bool true] ++ List.replicate 11 undefA ++ [.bool true, .bool true] ++ List.replicate 5 .opq ++ [undefA] : List AV) [.box (cS s) false, .box [I src, I ctl, I x2, I x3] false, .rows ((ys).map I) yg 1 false] (by kernel_rfl) (OK.nil ?_)
   refine X.condT (by kernel_rfl) ?_
   refine X.region (OK.seg 3 (by kernel_rfl) ?_)
   refine OK.opS (.sl 2 (yg + 1) 0 (ys.length + 1)) [.box (cS s) false, .box [I src, I ctl, I x2, I x3] false, .rows (((ys) ++ [(((s.ls 8).getD i 0))]).map I) (yg + 1) 1 false] (by kernel_rfl) (ap_sl (b := 2) (n := yg) (ex := true) (g := I) (ys := ys) (v := (((s.ls 8).getD i 0))) rfl rfl rfl rfl Tryz.underlying23 Tryz.underlying23 (by kernel_rfl) (by_ := 8) (by kernel_rfl) (z := I 0) (by kernel_rfl) rfl (by omega) (fun _ => rfl) (fun _ => rfl) (by kernel_rfl) (by kernel_rfl) (Nat.zero_le _) (ap_bd (by omega)) (by kernel_rfl)) ?_
   refine OK.seg 1 (by kernel_rfl) (OK.nil ?_)
   refine X.region ?_
   refine OK.val (I ((i + 1 : Nat) : Int)) (by kernel_rfl) (fun _ => add_op (k := .i64) (a := ((i : Nat) : Int)) (b := 1) rfl (by kernel_rfl) (by kernel_rfl) (by rw [wrap64] <;> first | omega | (have q := ids8 (by assumption) (by omega : i < _); omega))) ?_
   refine OK.seg 1 (by kernel_rfl) (OK.nil ?_)
   have hsk := fun (q : ¬ (grPr s n ctl src) ((s.ls 8).getD i 0)) => fskip h4 (by omega) q
   have had := fun (q : (grPr s n ctl src) ((s.ls 8).getD i 0)) => fadd h4 (by omega) q
   exact ⟨([.agg (cS s), I n, .agg [I src, I ctl, I x2, I x3], .ptr 0 0, undefA, .ptr 1 0, .list [] true, .sl 2 (yg + 1) 0 (ys.length + 1), undefA, .opq, .opq, .list [] true, .agg (cS s), I (numS s), .bool false, undefA, .ptr 0 1, .ptr 0 9, .list ((s.ls 8).map I) false, I ((((s.ls 8).map I).length : Nat) : Int), I ((i + 1 : Nat) : Int)] ++ List.replicate 52 .opq ++ [undefA] : List AV), [.box (cS s) false, .box [I src, I ctl, I x2, I x3] false, .rows (((ys) ++ [(((s.ls 8).getD i 0))]).map I) (yg + 1) 1 false], [0, 1, 2, 0, 0], [[], [], []], by kernel_rfl, by kernel_rfl, by simp only [bS], by simp only [bS], by kernel_rfl, m6 - 1, by omega, i + 1, by omega, by omega, .inr ⟨ys ++ [(s.ls 8).getD i 0], yg + 1, ys.length + 1, by simp, had (by first | (exfalso; omega) | exact ⟨by first | assumption | exact (by assumption : _ ∧ _).2, by omega⟩), by kernel_rfl, by kernel_rfl⟩⟩
  refine OK.seg 6 (by kernel_rfl) ?_
  refine OK.dec (n = 2) (by kernel_rfl) (by kernel_rfl) (fun h29 => ?_) (fun h29 => ?_)
  ·
   refine OK.seg 7 (by kernel_rfl) ?_
   refine OK.dec (n = 3) (by kernel_rfl) (by kernel_rfl) (fun h30 => ?_) (fun h30 => ?_)
   rotate_left
   ·
    refine OK.seg 11 (by kernel_rfl) (OK.nil ?_)
    refine X.condF (by kernel_rfl) ?_
    refine X.skip (X.region ?_)
    refine OK.val (I ((i + 1 : Nat) : Int)) (by kernel_rfl) (fun _ => add_op (k := .i64) (a := ((i : Nat) : Int)) (b := 1) rfl (by kernel_rfl) (by kernel_rfl) (by rw [wrap64] <;> first | omega | (have q := ids8 (by assumption) (by omega : i < _); omega))) ?_
    refine OK.seg 1 (by kernel_rfl) (OK.nil ?_)
    have hsk := fun (q : ¬ (grPr s n ctl src) ((s.ls 8).getD i 0)) => fskip h4 (by omega) q
    have had := fun (q : (grPr s n ctl src) ((s.ls 8).getD i 0)) => fadd h4 (by omega) q
    exact ⟨([.agg (cS s), I n, .agg [I src, I ctl, I x2, I x3], .ptr 0 0, undefA, .ptr 1 0, .list [] true, .sl 2 yg 0 ys.length, undefA, .opq, .opq, .list [] true, .agg (cS s), I (numS s), .bool false, undefA, .ptr 0 1, .ptr 0 9, .list ((s.ls 8).map I) false, I ((((s.ls 8).map I).length : Nat) : Int), I ((i + 1 : Nat) : Int)] ++ List.replicate 52 .opq ++ [undefA] : List AV), [.box (cS s) false, .box [I src, I ctl, I x2, I x3] false, .rows ((ys).map I) yg 1 false], [0, 1, 2, 0, 0], [[], [], []], by kernel_rfl, by kernel_rfl, by simp only [bS], by simp only [bS], by kernel_rfl, m6 - 1, by omega, i + 1, by omega, by omega, .inr ⟨ys, yg, ys.length, rfl, hsk (by intro q; first | (exfalso; omega) | exact absurd q.1 (by assumption) | exact (show ¬ (rightS s ∧ cre s ((s.ls 8).getD i 0)) by assumption) ⟨by assumption, q.1⟩ | (have q2 := q.2; omega)), by kernel_rfl, by kernel_rfl⟩⟩
   refine OK.seg 7 (by kernel_rfl) ?_
   refine OK.ndec ((((s.ls 8).getD i 0)) = src) (by kernel_rfl) (by kernel_rfl) (fun h31 => ?_) (fun h31 => ?_)
   rotate_left
   ·
    refine OK.seg 3 (by kernel_rfl) (OK.nil ?_)
    refine X.condF (by kernel_rfl) ?_
    refine X.skip (X.region ?_)
    refine OK.val (I ((i + 1 : Nat) : Int)) (by kernel_rfl) (fun _ => add_op (k := .i64) (a := ((i : Nat) : Int)) (b := 1) rfl (by kernel_rfl) (by kernel_rfl) (by rw [wrap64] <;> first | omega | (have q := ids8 (by assumption) (by omega : i < _); omega))) ?_
    refine OK.seg 1 (by kernel_rfl) (OK.nil ?_)
    have hsk := fun (q : ¬ (grPr s n ctl src) ((s.ls 8).getD i 0)) => fskip h4 (by omega) q
    have had := fun (q : (grPr s n ctl src) ((s.ls 8).getD i 0)) => fadd h4 (by omega) q
    exact ⟨([.agg (cS s), I n, .agg [I src, I ctl, I x2, I x3], .ptr 0 0, undefA, .ptr 1 0, .list [] true, .sl 2 yg 0 ys.length, undefA, .opq, .opq, .list [] true, .agg (cS s), I (numS s), .bool false, undefA, .ptr 0 1, .ptr 0 9, .list ((s.ls 8).map I) false, I ((((s.ls 8).map I).length : Nat) : Int), I ((i + 1 : Nat) : Int)] ++ List.replicate 52 .opq ++ [undefA] : List AV), [.box (cS s) false, .box [I src, I ctl, I x2, I x3] false, .rows ((ys).map I) yg 1 false], [0, 1, 2, 0, 0], [[], [], []], by kernel_rfl, by kernel_rfl, by simp only [bS], by simp only [bS], by kernel_rfl, m6 - 1, by omega, i + 1, by omega, by omega, .inr ⟨ys, yg, ys.length, rfl, hsk (by intro q; first | (exfalso; omega) | exact absurd q.1 (by assumption) | exact (show ¬ (rightS s ∧ cre s ((s.ls 8).getD i 0)) by assumption) ⟨by assumption, q.1⟩ | (have q2 := q.2; omega)), by kernel_rfl, by kernel_rfl⟩⟩
   refine OK.seg 3 (by kernel_rfl) (OK.nil ?_)
   refine X.condT (by kernel_rfl) ?_
   refine X.region (OK.seg 3 (by kernel_rfl) ?_)
   refine OK.opS (.sl 2 (yg + 1) 0 (ys.length + 1)) [.box (cS s) false, .box [I src, I ctl, I x2, I x3] false, .rows (((ys) ++ [(((s.ls 8).getD i 0))]).map I) (yg + 1) 1 false] (by kernel_rfl) (ap_sl (b := 2) (n := yg) (ex := true) (g := I) (ys := ys) (v := (((s.ls 8).getD i 0))) rfl rfl rfl rfl Tryz.underlying23 Tryz.underlying23 (by kernel_rfl) (by_ := 8) (by kernel_rfl) (z := I 0) (by kernel_rfl) rfl (by omega) (fun _ => rfl) (fun _ => rfl) (by kernel_rfl) (by kernel_rfl) (Nat.zero_le _) (ap_bd (by omega)) (by kernel_rfl)) ?_
   refine OK.seg 1 (by kernel_rfl) (OK.nil ?_)
   refine X.region ?_
   refine OK.val (I ((i + 1 : Nat) : Int)) (by kernel_rfl) (fun _ => add_op (k := .i64) (a := ((i : Nat) : Int)) (b := 1) rfl (by kernel_rfl) (by kernel_rfl) (by rw [wrap64] <;> first | omega | (have q := ids8 (by assumption) (by omega : i < _); omega))) ?_
   refine OK.seg 1 (by kernel_rfl) (OK.nil ?_)
   have hsk := fun (q : ¬ (grPr s n ctl src) ((s.ls 8).getD i 0)) => fskip h4 (by omega) q
   have had := fun (q : (grPr s n ctl src) ((s.ls 8).getD i 0)) => fadd h4 (by omega) q
   exact ⟨([.agg (cS s), I n, .agg [I src, I ctl, I x2, I x3], .ptr 0 0, undefA, .ptr 1 0, .list [] true, .sl 2 (yg + 1) 0 (ys.length + 1), undefA, .opq, .opq, .list [] true, .agg (cS s), I (numS s), .bool false, undefA, .ptr 0 1, .ptr 0 9, .list ((s.ls 8).map I) false, I ((((s.ls 8).map I).length : Nat) : Int), I ((i + 1 : Nat) : Int)] ++ List.replicate 52 .opq ++ [undefA] : List AV), [.box (cS s) false, .box [I src, I ctl, I x2, I x3] false, .rows (((ys) ++ [(((s.ls 8).getD i 0))]).map I) (yg + 1) 1 false], [0, 1, 2, 0, 0], [[], [], []], by kernel_rfl, by kernel_rfl, by simp only [bS], by simp only [bS], by kernel_rfl, m6 - 1, by omega, i + 1, by omega, by omega, .inr ⟨ys ++ [(s.ls 8).getD i 0], yg + 1, ys.length + 1, by simp, had (by first | (exfalso; omega) | exact ⟨by first | assumption | exact (by assumption : _ ∧ _).2, by omega⟩), by kernel_rfl, by kernel_rfl⟩⟩
  refine OK.seg 7 (by kernel_rfl) ?_
  refine OK.dec (n = 3) (by kernel_rfl) (by kernel_rfl) (fun h32 => ?_) (fun h32 => ?_)
  rotate_left
  ·
   refine OK.seg 11 (by kernel_rfl) (OK.nil ?_)
   refine X.condF (by kernel_rfl) ?_
   refine X.skip (X.region ?_)
   refine OK.val (I ((i + 1 : Nat) : Int)) (by kernel_rfl) (fun _ => add_op (k := .i64) (a := ((i : Nat) : Int)) (b := 1) rfl (by kernel_rfl) (by kernel_rfl) (by rw [wrap64] <;> first | omega | (have q := ids8 (by assumption) (by omega : i < _); omega))) ?_
   refine OK.seg 1 (by kernel_rfl) (OK.nil ?_)
   have hsk := fun (q : ¬ (grPr s n ctl src) ((s.ls 8).getD i 0)) => fskip h4 (by omega) q
   have had := fun (q : (grPr s n ctl src) ((s.ls 8).getD i 0)) => fadd h4 (by omega) q
   exact ⟨([.agg (cS s), I n, .agg [I src, I ctl, I x2, I x3], .ptr 0 0, undefA, .ptr 1 0, .list [] true, .sl 2 yg 0 ys.length, undefA, .opq, .opq, .list [] true, .agg (cS s), I (numS s), .bool false, undefA, .ptr 0 1, .ptr 0 9, .list ((s.ls 8).map I) false, I ((((s.ls 8).map I).length : Nat) : Int), I ((i + 1 : Nat) : Int)] ++ List.replicate 52 .opq ++ [undefA] : List AV), [.box (cS s) false, .box [I src, I ctl, I x2, I x3] false, .rows ((ys).map I) yg 1 false], [0, 1, 2, 0, 0], [[], [], []], by kernel_rfl, by kernel_rfl, by simp only [bS], by simp only [bS], by kernel_rfl, m6 - 1, by omega, i + 1, by omega, by omega, .inr ⟨ys, yg, ys.length, rfl, hsk (by intro q; first | (exfalso; omega) | exact absurd q.1 (by assumption) | exact (show ¬ (rightS s ∧ cre s ((s.ls 8).getD i 0)) by assumption) ⟨by assumption, q.1⟩ | (have q2 := q.2; omega)), by kernel_rfl, by kernel_rfl⟩⟩
  refine OK.seg 7 (by kernel_rfl) ?_
  refine OK.ndec ((((s.ls 8).getD i 0)) = src) (by kernel_rfl) (by kernel_rfl) (fun h33 => ?_) (fun h33 => ?_)
  rotate_left
  ·
   refine OK.seg 3 (by kernel_rfl) (OK.nil ?_)
   refine X.condF (by kernel_rfl) ?_
   refine X.skip (X.region ?_)
   refine OK.val (I ((i + 1 : Nat) : Int)) (by kernel_rfl) (fun _ => add_op (k := .i64) (a := ((i : Nat) : Int)) (b := 1) rfl (by kernel_rfl) (by kernel_rfl) (by rw [wrap64] <;> first | omega | (have q := ids8 (by assumption) (by omega : i < _); omega))) ?_
   refine OK.seg 1 (by kernel_rfl) (OK.nil ?_)
   have hsk := fun (q : ¬ (grPr s n ctl src) ((s.ls 8).getD i 0)) => fskip h4 (by omega) q
   have had := fun (q : (grPr s n ctl src) ((s.ls 8).getD i 0)) => fadd h4 (by omega) q
   exact ⟨([.agg (cS s), I n, .agg [I src, I ctl, I x2, I x3], .ptr 0 0, undefA, .ptr 1 0, .list [] true, .sl 2 yg 0 ys.length, undefA, .opq, .opq, .list [] true, .agg (cS s), I (numS s), .bool false, undefA, .ptr 0 1, .ptr 0 9, .list ((s.ls 8).map I) false, I ((((s.ls 8).map I).length : Nat) : Int), I ((i + 1 : Nat) : Int)] ++ List.replicate 52 .opq ++ [undefA] : List AV), [.box (cS s) false, .box [I src, I ctl, I x2, I x3] false, .rows ((ys).map I) yg 1 false], [0, 1, 2, 0, 0], [[], [], []], by kernel_rfl, by kernel_rfl, by simp only [bS], by simp only [bS], by kernel_rfl, m6 - 1, by omega, i + 1, by omega, by omega, .inr ⟨ys, yg, ys.length, rfl, hsk (by intro q; first | (exfalso; omega) | exact absurd q.1 (by assumption) | exact (show ¬ (rightS s ∧ cre s ((s.ls 8).getD i 0)) by assumption) ⟨by assumption, q.1⟩ | (have q2 := q.2; omega)), by kernel_rfl, by kernel_rfl⟩⟩
  refine OK.seg 3 (by kernel_rfl) (OK.nil ?_)
  refine X.condT (by kernel_rfl) ?_
  refine X.region (OK.seg 3 (by kernel_rfl) ?_)
  refine OK.opS (.sl 2 (yg + 1) 0 (ys.length + 1)) [.box (cS s) false, .box [I src, I ctl, I x2, I x3] false, .rows (((ys) ++ [(((s.ls 8).getD i 0))]).map I) (yg + 1) 1 false] (by kernel_rfl) (ap_sl (b := 2) (n := yg) (ex := true) (g := I) (ys := ys) (v := (((s.ls 8).getD i 0))) rfl rfl rfl rfl Tryz.underlying23 Tryz.underlying23 (by kernel_rfl) (by_ := 8) (by kernel_rfl) (z := I 0) (by kernel_rfl) rfl (by omega) (fun _ => rfl) (fun _ => rfl) (by kernel_rfl) (by kernel_rfl) (Nat.zero_le _) (ap_bd (by omega)) (by kernel_rfl)) ?_
  refine OK.seg 1 (by kernel_rfl) (OK.nil ?_)
  refine X.region ?_
  refine OK.val (I ((i + 1 : Nat) : Int)) (by kernel_rfl) (fun _ => add_op (k := .i64) (a := ((i : Nat) : Int)) (b := 1) rfl (by kernel_rfl) (by kernel_rfl) (by rw [wrap64] <;> first | omega | (have q := ids8 (by assumption) (by omega : i < _); omega))) ?_
  refine OK.seg 1 (by kernel_rfl) (OK.nil ?_)
  have hsk := fun (q : ¬ (grPr s n ctl src) ((s.ls 8).getD i 0)) => fskip h4 (by omega) q
  have had := fun (q : (grPr s n ctl src) ((s.ls 8).getD i 0)) => fadd h4 (by omega) q
  exact ⟨([.agg (cS s), I n, .agg [I src, I ctl, I x2, I x3], .ptr 0 0, undefA, .ptr 1 0, .list [] true, .sl 2 (yg + 1) 0 (ys.length + 1), undefA, .opq, .opq, .list [] true, .agg (cS s), I (numS s), .bool false, undefA, .ptr 0 1, .ptr 0 9, .list ((s.ls 8).map I) false, I ((((s.ls 8).map I).length : Nat) : Int), I ((i + 1 : Nat) : Int)] ++ List.replicate 52 .opq ++ [undefA] : List AV), [.box (cS s) false, .box [I src, I ctl, I x2, I x3] false, .rows (((ys) ++ [(((s.ls 8).getD i 0))]).map I) (yg + 1) 1 false], [0, 1, 2, 0, 0], [[], [], []], by kernel_rfl, by kernel_rfl, by simp only [bS], by simp only [bS], by kernel_rfl, m6 - 1, by omega, i + 1, by omega, by omega, .inr ⟨ys ++ [(s.ls 8).getD i 0], yg + 1, ys.length + 1, by simp, had (by first | (exfalso; omega) | exact ⟨by first | assumption | exact (by assumption : _ ∧ _).2, by omega⟩), by kernel_rfl, by kernel_rfl⟩⟩

end Go.Abs.S22
