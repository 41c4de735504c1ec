/-
  Walks: abilities, targets, mana, and the law StackTells itself. Each under its own conditions.
-/
import Derived.Test.YtnpheencpcfbbaaGreatDoorW4
import Derived.Test.YtnpheencpcfbbaaGreatDoorL3
import Derived.Test.YtnpheencpcfbbaaGreatDoorX
set_option linter.unusedSimpArgs false
set_option linter.unusedVariables false
namespace Go.Abs.Z
open Go Go.Abs Go.Proofs
def usP (c : Cd) (w : Int) (j : Nat) : Prop := (c.abs.getD j a0).when = w
instance (c : Cd) (w : Int) : DecidablePred (usP c w) := fun _ => inferInstanceAs (Decidable (_ = _))
def usL (c : Cd) (w : Int) : List Int := ixs 0 (usP c w) c.abs.length
def okC (c : Cd) : Prop := c.abs.length ≤ 4
theorem cdN_ok (n : Int) : okC (cdN n) := by
  unfold okC cdN
  have h : ∀ c ∈ cards, c.abs.length ≤ 4 := by decide
  rw [List.getD]
  cases hq : cards[n.toNat]? with
  | none => decide
  | some c => exact h c (List.mem_of_getElem? hq)
theorem us_len (c : Cd) (w : Int) : (usL c w).length ≤ c.abs.length := by
  have := ilen (l := []) (c := 0) (p := usP c w) (i := c.abs.length) rfl
  simpa [usL] using this
theorem us_at {c : Cd} {w : Int} {i : Nat} (h : i < (usL c w).length) : 0 ≤ (usL c w).getD i 0 ∧ (usL c w).getD i 0 < c.abs.length := by
  have h1 : (usL c w).getD i 0 ∈ usL c w := by simp [List.getD, h]
  obtain ⟨j, h2, _, h3⟩ := ixs_mem.1 h1
  omega
theorem us_end {c : Cd} {w : Int} {ys : List Int} {i : Nat} (h : [] ++ ixs 0 (usP c w) i = ys) (hi : i = c.abs.length) : AV.list (ys.map I) false = AV.list ((usL c w).map I) false := by
  subst hi h; rfl
set_option maxHeartbeats 1000000 in
theorem Uses_w : ∀ k (c : Cd) (w : Int) σ, okC c → 600 ≤ k → readW (callW Tryz.prog (exec Tryz.prog cfg k)) 115 [.agg (cC c), I w] σ = some (.list ((usL c w).map I) false, σ) := by
 intro k c w σ hyp0 hk
 obtain ⟨k, rfl⟩ : ∃ k', k = k' + 60 := ⟨k - 60, by omega⟩
 have hcl : ((c.abs).map A).length = c.abs.length := List.length_map _
 have hcd : ((c.abs).map AD).length = c.abs.length := List.length_map _
 have hck : c.abs.length ≤ 4 := hyp0
 refine reader_of Tryz.func115 rfl (by simp only [AV.frees, AV.free, fr_I, fr_E, fr_cO, fr_cL, fr_cS, fr_cC, fr_cD, Bool.and_self]) ?_
 refine X.seq (X.region (OK.seg 2 (by kernel_rfl) (OK.nil ?_)))
 refine X.seq (X.region (OK.seg 1 (by kernel_rfl) (OK.nil ?_)))
 refine X.seq (X.seq (X.region (OK.seg 4 (by kernel_rfl) (OK.nil ?_))))
 refine X.block ?_
 refine X.rounds3 (K := 500) [6, 7, 12, 13, 14, 15, 16, 17, 18, 19, 20, 21, 22, 23, 24] (by kernel_rfl) rfl (fun m fr σ => ∃ i : Nat, m = c.abs.length - i ∧ i ≤ c.abs.length ∧ (([] ++ ixs 0 (usP c w) i = [] ∧ clearA' [6, 7, 12, 13, 14, 15, 16, 17, 18, 19, 20, 21, 22, 23, 24] fr = ([.agg (cC c), I w, .ptr 0 0, undefA, .list [] true, .list [] true, .opq, .opq, .ptr 0 12, .list ((c.abs).map A) false, I ((((c.abs).map A).length : Nat) : Int), I ((i : Nat) : Int)] ++ List.replicate 13 .opq ++ [undefA] : List AV) ∧ σ = [.box (cC c) false]) ∨ ∃ (ys : List Int) (yg yn : Nat), yn = ys.length ∧ [] ++ ixs 0 (usP c w) i = ys ∧ clearA' [6, 7, 12, 13, 14, 15, 16, 17, 18, 19, 20, 21, 22, 23, 24] fr = ([.agg (cC c), I w, .ptr 0 0, undefA, .list [] true, .sl 2 yg 0 yn, .opq, .opq, .ptr 0 12, .list ((c.abs).map A) false, I ((((c.abs).map A).length : Nat) : Int), I ((i : Nat) : Int)] ++ List.replicate 13 .opq ++ [undefA] : List AV) ∧ σ = [.box (cC c) false, .box [] true, .rows ((ys).map I) yg 1 false])) ?_ (m := c.abs.length) ⟨0, rfl, Nat.zero_le _, .inl ⟨rfl, by kernel_rfl, by kernel_rfl⟩⟩ ?_
 rotate_left
 · omega
 rintro m5 fr σ ⟨i, h1, h2, ⟨h3, h4, rfl⟩ | ⟨ys, yg, yn, rfl, h3, h4, rfl⟩⟩ k h5
 ·
  rw [h4]; clear h4
  have hyl := ilen h3
  simp only [List.length_cons, List.length_nil] at hyl
  obtain ⟨k, rfl⟩ : ∃ k', k = k' + 60 := ⟨k - 60, by omega⟩
  refine X.seq (X.region ?_)
  refine OK.dec (((i : Nat) : Int) < ((((c.abs).map A).length : Nat) : Int)) (by kernel_rfl) (by kernel_rfl) (fun h6 => ?_) (fun h6 => ?_)
  rotate_left
  ·
   refine OK.nil ?_
   refine X.seq (X.condF (by kernel_rfl) ?_)
   refine X.exit ?_
   show X _ _ _ _ _ _ _ _ _
   refine X.seq (X.region (OK.seg 2 (by kernel_rfl) (OK.nil ?_)))
   refine X.ret ?_
   exact ⟨rfl, giv (r := .list [] false) (by kernel_rfl) (by exact us_end (ys := []) h3 (by omega))⟩
  refine OK.nil ?_
  refine X.seq (X.condT (by kernel_rfl) ?_)
  refine X.skip (X.seq (X.block (X.seq (X.region (OK.seg 1 (by kernel_rfl) ?_)))))
  refine OK.val (.ro (aC ((c.abs).getD i a0)) 0) (by kernel_rfl) (fun _ => idx_map (sz := 14) (g := A) (d := a0) (xs := c.abs) (ex := false) (k := .i64) (n := ((i : Nat) : Int)) rfl Tryz.underlying150 (by kernel_rfl) (by kernel_rfl) (by kernel_rfl) (by kernel_rfl) (by omega) (by omega)) ?_
  refine OK.seg 4 (by kernel_rfl) (OK.nil ?_)
  refine X.seq (X.region (OK.seg 3 (by kernel_rfl) ?_))
  refine OK.dec ((((c.abs).getD i a0).when) = w) (by kernel_rfl) (by kernel_rfl) (fun h7 => ?_) (fun h7 => ?_)
  rotate_left
  ·
   refine OK.nil ?_
   refine X.condF (by kernel_rfl) ?_
   refine X.skip (X.region ?_)
   refine OK.val (I ((i + 1 : Nat) : Int)) (by kernel_rfl) (fun _ => add_op (k := .i64) (a := ((i : Nat) : Int)) (b := 1) rfl (by kernel_rfl) (by kernel_rfl) (by rw [wrap64] <;> omega)) ?_
   refine OK.seg 1 (by kernel_rfl) (OK.nil ?_)
   exact ⟨([.agg (cC c), I w, .ptr 0 0, undefA, .list [] true, .list [] true, .opq, .opq, .ptr 0 12, .list ((c.abs).map A) false, I ((((c.abs).map A).length : Nat) : Int), I ((i + 1 : Nat) : Int)] ++ List.replicate 13 .opq ++ [undefA] : List AV), [.box (cC c) false, .box (aC ((c.abs).getD i a0)) false], [0, 0], [[], []], by kernel_rfl, by kernel_rfl, by simp only [bS, bl_cC, bl_aC, bl_Am, bl_cD, bl_aD, bl_ADm, bl_EFm, bl_eC], by simp only [bS, bl_cC, bl_aC, bl_Am, bl_cD, bl_aD, bl_ADm, bl_EFm, bl_eC], by kernel_rfl, m5 - 1, by omega, i + 1, by omega, by omega, .inl ⟨iskip h3 (by first | assumption | omega | (simp only [usP]; assumption) | (simp only [usP, Int.toNat_natCast] at *; assumption)), by kernel_rfl, by kernel_rfl⟩⟩
  refine OK.nil ?_
  refine X.condT (by kernel_rfl) ?_
  refine X.region (OK.seg 5 (by kernel_rfl) (OK.nil ?_))
  refine X.region ?_
  refine OK.val (I ((i + 1 : Nat) : Int)) (by kernel_rfl) (fun _ => add_op (k := .i64) (a := ((i : Nat) : Int)) (b := 1) rfl (by kernel_rfl) (by kernel_rfl) (by rw [wrap64] <;> omega)) ?_
  refine OK.seg 1 (by kernel_rfl) (OK.nil ?_)
  exact ⟨([.agg (cC c), I w, .ptr 0 0, undefA, .list [] true, .sl 2 0 0 1, .opq, .opq, .ptr 0 12, .list ((c.abs).map A) false, I ((((c.abs).map A).length : Nat) : Int), I ((i + 1 : Nat) : Int)] ++ List.replicate 13 .opq ++ [undefA] : List AV), [.box (cC c) false, .box (aC ((c.abs).getD i a0)) false, .rows (([((i : Nat) : Int)]).map I) 0 1 false], [0, 2, 0], [[], [], []], by kernel_rfl, by kernel_rfl, by simp only [bS, bl_cC, bl_aC, bl_Am, bl_cD, bl_aD, bl_ADm, bl_EFm, bl_eC], by simp only [bS, bl_cC, bl_aC, bl_Am, bl_cD, bl_aD, bl_ADm, bl_EFm, bl_eC], by kernel_rfl, m5 - 1, by omega, i + 1, by omega, by omega, .inr ⟨[((i : Nat) : Int)], 0, 1, rfl, iadd h3 (by first | assumption | omega | (simp only [usP]; assumption) | (simp only [usP, Int.toNat_natCast] at *; assumption)), by kernel_rfl, by kernel_rfl⟩⟩
 ·
  rw [h4]; clear h4
  have hyl := ilen h3
  simp only [List.length_cons, List.length_nil] at hyl
  obtain ⟨k, rfl⟩ : ∃ k', k = k' + 60 := ⟨k - 60, by omega⟩
  refine X.seq (X.region ?_)
  refine OK.dec (((i : Nat) : Int) < ((((c.abs).map A).length : Nat) : Int)) (by kernel_rfl) (by kernel_rfl) (fun h8 => ?_) (fun h8 => ?_)
  rotate_left
  ·
   refine OK.nil ?_
   refine X.seq (X.condF (by kernel_rfl) ?_)
   refine X.exit ?_
   show X _ _ _ _ _ _ _ _ _
   refine X.seq (X.region (OK.seg 2 (by kernel_rfl) (OK.nil ?_)))
   refine X.ret ?_
   exact ⟨rfl, giv (gives_sl (g := I) (fun _ _ => rfl) (fun _ => rfl) (b := 2) (n := yg) (ys := ys) (sz := 1) (by kernel_rfl) (by kernel_rfl)) (by exact us_end h3 (by omega))⟩
  refine OK.nil ?_
  refine X.seq (X.condT (by kernel_rfl) ?_)
  refine X.skip (X.seq (X.block (X.seq (X.region (OK.seg 1 (by kernel_rfl) ?_)))))
  refine OK.val (.ro (aC ((c.abs).getD i a0)) 0) (by kernel_rfl) (fun _ => idx_map (sz := 14) (g := A) (d := a0) (xs := c.abs) (ex := false) (k := .i64) (n := ((i : Nat) : Int)) rfl Tryz.underlying150 (by kernel_rfl) (by kernel_rfl) (by kernel_rfl) (by kernel_rfl) (by omega) (by omega)) ?_
  refine OK.seg 4 (by kernel_rfl) (OK.nil ?_)
  refine X.seq (X.region (OK.seg 3 (by kernel_rfl) ?_))
  refine OK.dec ((((c.abs).getD i a0).when) = w) (by kernel_rfl) (by kernel_rfl) (fun h9 => ?_) (fun h9 => ?_)
  rotate_left
  ·
   refine OK.nil ?_
   refine X.condF (by kernel_rfl) ?_
   refine X.skip (X.region ?_)
   refine OK.val (I ((i + 1 : Nat) : Int)) (by kernel_rfl) (fun _ => add_op (k := .i64) (a := ((i : Nat) : Int)) (b := 1) rfl (by kernel_rfl) (by kernel_rfl) (by rw [wrap64] <;> omega)) ?_
   refine OK.seg 1 (by kernel_rfl) (OK.nil ?_)
   exact ⟨([.agg (cC c), I w, .ptr 0 0, undefA, .list [] true, .sl 2 yg 0 ys.length, .opq, .opq, .ptr 0 12, .list ((c.abs).map A) false, I ((((c.abs).map A).length : Nat) : Int), I ((i + 1 : Nat) : Int)] ++ List.replicate 13 .opq ++ [undefA] : List AV), [.box (cC c) false, .box [] true, .rows ((ys).map I) yg 1 false, .box (aC ((c.abs).getD i a0)) false], [0, 2, 0], [[], [], [], []], by kernel_rfl, by kernel_rfl, by simp only [bS, bl_cC, bl_aC, bl_Am, bl_cD, bl_aD, bl_ADm, bl_EFm, bl_eC], by simp only [bS, bl_cC, bl_aC, bl_Am, bl_cD, bl_aD, bl_ADm, bl_EFm, bl_eC], by kernel_rfl, m5 - 1, by omega, i + 1, by omega, by omega, .inr ⟨ys, yg, ys.length, rfl, iskip h3 (by first | assumption | omega | (simp only [usP]; assumption) | (simp only [usP, Int.toNat_natCast] at *; assumption)), by kernel_rfl, by kernel_rfl⟩⟩
  refine OK.nil ?_
  refine X.condT (by kernel_rfl) ?_
  refine X.region (OK.seg 3 (by kernel_rfl) ?_)
  refine OK.opS (.sl 2 (yg + 1) 0 (ys.length + 1)) [.box (cC c) false, .box [] true, .rows (((ys) ++ [((i : Nat) : Int)]).map I) (yg + 1) 1 false, .box (aC ((c.abs).getD i a0)) false] (by kernel_rfl) (ap_sl (b := 2) (n := yg) (ex := true) (g := I) (ys := ys) (v := ((i : Nat) : Int)) rfl rfl rfl rfl Tryz.underlying23 Tryz.underlying23 (by kernel_rfl) (by_ := 8) (by kernel_rfl) (z := I 0) (by kernel_rfl) rfl (by omega) (fun _ => rfl) (fun _ => rfl) (by kernel_rfl) (by kernel_rfl) (Nat.zero_le _) (ap_bd (by omega)) (by kernel_rfl)) ?_
  refine OK.seg 1 (by kernel_rfl) (OK.nil ?_)
  refine X.region ?_
  refine OK.val (I ((i + 1 : Nat) : Int)) (by kernel_rfl) (fun _ => add_op (k := .i64) (a := ((i : Nat) : Int)) (b := 1) rfl (by kernel_rfl) (by kernel_rfl) (by rw [wrap64] <;> omega)) ?_
  refine OK.seg 1 (by kernel_rfl) (OK.nil ?_)
  exact ⟨([.agg (cC c), I w, .ptr 0 0, undefA, .list [] true, .sl 2 (yg + 1) 0 (ys.length + 1), .opq, .opq, .ptr 0 12, .list ((c.abs).map A) false, I ((((c.abs).map A).length : Nat) : Int), I ((i + 1 : Nat) : Int)] ++ List.replicate 13 .opq ++ [undefA] : List AV), [.box (cC c) false, .box [] true, .rows (((ys) ++ [((i : Nat) : Int)]).map I) (yg + 1) 1 false, .box (aC ((c.abs).getD i a0)) false], [0, 2, 0], [[], [], [], []], by kernel_rfl, by kernel_rfl, by simp only [bS, bl_cC, bl_aC, bl_Am, bl_cD, bl_aD, bl_ADm, bl_EFm, bl_eC], by simp only [bS, bl_cC, bl_aC, bl_Am, bl_cD, bl_aD, bl_ADm, bl_EFm, bl_eC], by kernel_rfl, m5 - 1, by omega, i + 1, by omega, by omega, .inr ⟨ys ++ [((i : Nat) : Int)], yg + 1, ys.length + 1, by simp, iadd h3 (by first | assumption | omega | (simp only [usP]; assumption) | (simp only [usP, Int.toNat_natCast] at *; assumption)), by kernel_rfl, by kernel_rfl⟩⟩
set_option maxHeartbeats 1000000 in
theorem rUses_w : ∀ k (c : Cd) (w : Int) σ, okC c → 600 ≤ k → readW (callW Tryz.prog (exec Tryz.prog cfg k)) 119 [.agg (cD c), I w] σ = some (.list ((usL c w).map I) false, σ) := by
 intro k c w σ hyp0 hk
 obtain ⟨k, rfl⟩ : ∃ k', k = k' + 60 := ⟨k - 60, by omega⟩
 have hcl : ((c.abs).map A).length = c.abs.length := List.length_map _
 have hcd : ((c.abs).map AD).length = c.abs.length := List.length_map _
 have hck : c.abs.length ≤ 4 := hyp0
 refine reader_of Tryz.func119 rfl (by simp only [AV.frees, AV.free, fr_I, fr_E, fr_cO, fr_cL, fr_cS, fr_cC, fr_cD, Bool.and_self]) ?_
 refine X.seq (X.region (OK.seg 2 (by kernel_rfl) (OK.nil ?_)))
 refine X.seq (X.region (OK.seg 2 (by kernel_rfl) (OK.nil ?_)))
 refine X.seq (X.seq (X.region (OK.seg 1 (by kernel_rfl) (OK.nil ?_))))
 refine X.block ?_
 refine X.rounds3 (K := 500) [8, 9, 10, 11, 12, 13, 14, 15, 16, 17, 18, 19, 20, 21, 22, 23, 24, 25, 26] (by kernel_rfl) rfl (fun m fr σ => ∃ i : Nat, m = c.abs.length - i ∧ i ≤ c.abs.length ∧ (([] ++ ixs 0 (usP c w) i = [] ∧ clearA' [8, 9, 10, 11, 12, 13, 14, 15, 16, 17, 18, 19, 20, 21, 22, 23, 24, 25, 26] fr = ([.agg (cD c), I w, .ptr 0 0, undefA, .list [] true, .list [] true, I ((i : Nat) : Int), .list [] true] ++ List.replicate 19 .opq ++ [undefA] : List AV) ∧ σ = [.box (cD c) false]) ∨ ∃ (ys : List Int) (yg yn : Nat), yn = ys.length ∧ [] ++ ixs 0 (usP c w) i = ys ∧ clearA' [8, 9, 10, 11, 12, 13, 14, 15, 16, 17, 18, 19, 20, 21, 22, 23, 24, 25, 26] fr = ([.agg (cD c), I w, .ptr 0 0, undefA, .list [] true, .sl 1 yg 0 yn, I ((i : Nat) : Int), .list [] true] ++ List.replicate 19 .opq ++ [undefA] : List AV) ∧ σ = [.box (cD c) false, .rows ((ys).map I) yg 1 false])) ?_ (m := c.abs.length) ⟨0, rfl, Nat.zero_le _, .inl ⟨rfl, by kernel_rfl, by kernel_rfl⟩⟩ ?_
 rotate_left
 · omega
 rintro m5 fr σ ⟨i, h1, h2, ⟨h3, h4, rfl⟩ | ⟨ys, yg, yn, rfl, h3, h4, rfl⟩⟩ k h5
 ·
  rw [h4]; clear h4
  have hyl := ilen h3
  simp only [List.length_cons, List.length_nil] at hyl
  obtain ⟨k, rfl⟩ : ∃ k', k = k' + 60 := ⟨k - 60, by omega⟩
  refine X.seq (X.seq (X.region (OK.seg 4 (by kernel_rfl) ?_)))
  refine OK.dec (((i : Nat) : Int) < ((((c.abs).map AD).length : Nat) : Int)) (by kernel_rfl) (by kernel_rfl) (fun h6 => ?_) (fun h6 => ?_)
  rotate_left
  ·
   refine OK.nil ?_
   refine X.condF (by kernel_rfl) ?_
   refine X.exit ?_
   show X _ _ _ _ _ _ _ _ _
   refine X.seq (X.region (OK.seg 2 (by kernel_rfl) (OK.nil ?_)))
   refine X.ret ?_
   exact ⟨rfl, giv (r := .list [] false) (by kernel_rfl) (by exact us_end (ys := []) h3 (by omega))⟩
  refine OK.nil ?_
  refine X.condT (by kernel_rfl) ?_
  refine X.skip (X.seq (X.block (X.seq (X.region (OK.seg 3 (by kernel_rfl) ?_)))))
  refine OK.val (.ro (aD ((c.abs).getD i a0)) 0) (by kernel_rfl) (fun _ => idx_map (sz := 14) (g := AD) (d := a0) (xs := c.abs) (ex := false) (k := .i64) (n := ((i : Nat) : Int)) rfl Tryz.underlying150 (by kernel_rfl) (by kernel_rfl) (by kernel_rfl) (by kernel_rfl) (by omega) (by omega)) ?_
  refine OK.seg 3 (by kernel_rfl) ?_
  refine OK.dec ((((c.abs).getD i a0).when) = w) (by kernel_rfl) (by kernel_rfl) (fun h7 => ?_) (fun h7 => ?_)
  rotate_left
  ·
   refine OK.nil ?_
   refine X.condF (by kernel_rfl) ?_
   refine X.skip (X.region (OK.seg 1 (by kernel_rfl) ?_))
   refine OK.val (I ((i + 1 : Nat) : Int)) (by kernel_rfl) (fun _ => add_op (k := .i64) (a := ((i : Nat) : Int)) (b := 1) rfl (by kernel_rfl) (by kernel_rfl) (by rw [wrap64] <;> omega)) ?_
   refine OK.seg 1 (by kernel_rfl) (OK.nil ?_)
   exact ⟨([.agg (cD c), I w, .ptr 0 0, undefA, .list [] true, .list [] true, I ((i + 1 : Nat) : Int), .list [] true] ++ List.replicate 19 .opq ++ [undefA] : List AV), [.box (cD c) false], [0], [[]], by kernel_rfl, by kernel_rfl, by simp only [bS, bl_cC, bl_aC, bl_Am, bl_cD, bl_aD, bl_ADm, bl_EFm, bl_eC], by simp only [bS, bl_cC, bl_aC, bl_Am, bl_cD, bl_aD, bl_ADm, bl_EFm, bl_eC], by kernel_rfl, m5 - 1, by omega, i + 1, by omega, by omega, .inl ⟨iskip h3 (by first | assumption | omega | (simp only [usP]; assumption) | (simp only [usP, Int.toNat_natCast] at *; assumption)), by kernel_rfl, by kernel_rfl⟩⟩
  refine OK.nil ?_
  refine X.condT (by kernel_rfl) ?_
  refine X.region (OK.seg 5 (by kernel_rfl) (OK.nil ?_))
  refine X.region (OK.seg 1 (by kernel_rfl) ?_)
  refine OK.val (I ((i + 1 : Nat) : Int)) (by kernel_rfl) (fun _ => add_op (k := .i64) (a := ((i : Nat) : Int)) (b := 1) rfl (by kernel_rfl) (by kernel_rfl) (by rw [wrap64] <;> omega)) ?_
  refine OK.seg 1 (by kernel_rfl) (OK.nil ?_)
  exact ⟨([.agg (cD c), I w, .ptr 0 0, undefA, .list [] true, .sl 1 0 0 1, I ((i + 1 : Nat) : Int), .list [] true] ++ List.replicate 19 .opq ++ [undefA] : List AV), [.box (cD c) false, .rows (([((i : Nat) : Int)]).map I) 0 1 false], [0, 1], [[], []], by kernel_rfl, by kernel_rfl, by simp only [bS, bl_cC, bl_aC, bl_Am, bl_cD, bl_aD, bl_ADm, bl_EFm, bl_eC], by simp only [bS, bl_cC, bl_aC, bl_Am, bl_cD, bl_aD, bl_ADm, bl_EFm, bl_eC], by kernel_rfl, m5 - 1, by omega, i + 1, by omega, by omega, .inr ⟨[((i : Nat) : Int)], 0, 1, rfl, iadd h3 (by first | assumption | omega | (simp only [usP]; assumption) | (simp only [usP, Int.toNat_natCast] at *; assumption)), by kernel_rfl, by kernel_rfl⟩⟩
 ·
  rw [h4]; clear h4
  have hyl := ilen h3
  simp only [List.length_cons, List.length_nil] at hyl
  obtain ⟨k, rfl⟩ : ∃ k', k = k' + 60 := ⟨k - 60, by omega⟩
  refine X.seq (X.seq (X.region (OK.seg 4 (by kernel_rfl) ?_)))
  refine OK.dec (((i : Nat) : Int) < ((((c.abs).map AD).length : Nat) : Int)) (by kernel_rfl) (by kernel_rfl) (fun h8 => ?_) (fun h8 => ?_)
  rotate_left
  ·
   refine OK.nil ?_
   refine X.condF (by kernel_rfl) ?_
   refine X.exit ?_
   show X _ _ _ _ _ _ _ _ _
   refine X.seq (X.region (OK.seg 2 (by kernel_rfl) (OK.nil ?_)))
   refine X.ret ?_
   exact ⟨rfl, giv (gives_sl (g := I) (fun _ _ => rfl) (fun _ => rfl) (b := 1) (n := yg) (ys := ys) (sz := 1) (by kernel_rfl) (by kernel_rfl)) (by exact us_end h3 (by omega))⟩
  refine OK.nil ?_
  refine X.condT (by kernel_rfl) ?_
  refine X.skip (X.seq (X.block (X.seq (X.region (OK.seg 3 (by kernel_rfl) ?_)))))
  refine OK.val (.ro (aD ((c.abs).getD i a0)) 0) (by kernel_rfl) (fun _ => idx_map (sz := 14) (g := AD) (d := a0) (xs := c.abs) (ex := false) (k := .i64) (n := ((i : Nat) : Int)) rfl Tryz.underlying150 (by kernel_rfl) (by kernel_rfl) (by kernel_rfl) (by kernel_rfl) (by omega) (by omega)) ?_
  refine OK.seg 3 (by kernel_rfl) ?_
  refine OK.dec ((((c.abs).getD i a0).when) = w) (by kernel_rfl) (by kernel_rfl) (fun h9 => ?_) (fun h9 => ?_)
  rotate_left
  ·
   refine OK.nil ?_
   refine X.condF (by kernel_rfl) ?_
   refine X.skip (X.region (OK.seg 1 (by kernel_rfl) ?_))
   refine OK.val (I ((i + 1 : Nat) : Int)) (by kernel_rfl) (fun _ => add_op (k := .i64) (a := ((i : Nat) : Int)) (b := 1) rfl (by kernel_rfl) (by kernel_rfl) (by rw [wrap64] <;> omega)) ?_
   refine OK.seg 1 (by kernel_rfl) (OK.nil ?_)
   exact ⟨([.agg (cD c), I w, .ptr 0 0, undefA, .list [] true, .sl 1 yg 0 ys.length, I ((i + 1 : Nat) : Int), .list [] true] ++ List.replicate 19 .opq ++ [undefA] : List AV), [.box (cD c) false, .rows ((ys).map I) yg 1 false], [0, 1], [[], []], by kernel_rfl, by kernel_rfl, by simp only [bS, bl_cC, bl_aC, bl_Am, bl_cD, bl_aD, bl_ADm, bl_EFm, bl_eC], by simp only [bS, bl_cC, bl_aC, bl_Am, bl_cD, bl_aD, bl_ADm, bl_EFm, bl_eC], by kernel_rfl, m5 - 1, by omega, i + 1, by omega, by omega, .inr ⟨ys, yg, ys.length, rfl, iskip h3 (by first | assumption | omega | (simp only [usP]; assumption) | (simp only [usP, Int.toNat_natCast] at *; assumption)), by kernel_rfl, by kernel_rfl⟩⟩
  refine OK.nil ?_
  refine X.condT (by kernel_rfl) ?_
  refine X.region (OK.seg 3 (by kernel_rfl) ?_)
  refine OK.opS (.sl 1 (yg + 1) 0 (ys.length + 1)) [.box (cD c) false, .rows (((ys) ++ [((i : Nat) : Int)]).map I) (yg + 1) 1 false] (by kernel_rfl) (ap_sl (b := 1) (n := yg) (ex := true) (g := I) (ys := ys) (v := ((i : Nat) : Int)) rfl rfl rfl rfl Tryz.underlying23 Tryz.underlying23 (by kernel_rfl) (by_ := 8) (by kernel_rfl) (z := I 0) (by kernel_rfl) rfl (by omega) (fun _ => rfl) (fun _ => rfl) (by kernel_rfl) (by kernel_rfl) (Nat.zero_le _) (ap_bd (by omega)) (by kernel_rfl)) ?_
  refine OK.seg 1 (by kernel_rfl) (OK.nil ?_)
  refine X.region (OK.seg 1 (by kernel_rfl) ?_)
  refine OK.val (I ((i + 1 : Nat) : Int)) (by kernel_rfl) (fun _ => add_op (k := .i64) (a := ((i : Nat) : Int)) (b := 1) rfl (by kernel_rfl) (by kernel_rfl) (by rw [wrap64] <;> omega)) ?_
  refine OK.seg 1 (by kernel_rfl) (OK.nil ?_)
  exact ⟨([.agg (cD c), I w, .ptr 0 0, undefA, .list [] true, .sl 1 (yg + 1) 0 (ys.length + 1), I ((i + 1 : Nat) : Int), .list [] true] ++ List.replicate 19 .opq ++ [undefA] : List AV), [.box (cD c) false, .rows (((ys) ++ [((i : Nat) : Int)]).map I) (yg + 1) 1 false], [0, 1], [[], []], by kernel_rfl, by kernel_rfl, by simp only [bS, bl_cC, bl_aC, bl_Am, bl_cD, bl_aD, bl_ADm, bl_EFm, bl_eC], by simp only [bS, bl_cC, bl_aC, bl_Am, bl_cD, bl_aD, bl_ADm, bl_EFm, bl_eC], by kernel_rfl, m5 - 1, by omega, i + 1, by omega, by omega, .inr ⟨ys ++ [((i : Nat) : Int)], yg + 1, ys.length + 1, by simp, iadd h3 (by first | assumption | omega | (simp only [usP]; assumption) | (simp only [usP, Int.toNat_natCast] at *; assumption)), by kernel_rfl, by kernel_rfl⟩⟩
def sta (s : St) (id z : Int) : Prop := 0 ≤ id ∧ id < s.objs.length ∧ (s.objs.getD id.toNat o0) 3 = z
instance (s : St) (id z : Int) : Decidable (sta s id z) := inferInstanceAs (Decidable (_ ∧ _ ∧ _))
def cdO (s : St) (id : Int) : Cd := cdN ((s.objs.getD id.toNat o0) 0)
def hasA (s : St) (id n : Int) : Prop := (0 ≤ id ∧ id < s.objs.length) ∧ 0 ≤ n ∧ n < (cdO s id).abs.length
instance (s : St) (id n : Int) : Decidable (hasA s id n) := inferInstanceAs (Decidable (_ ∧ _ ∧ _))
set_option maxHeartbeats 1000000 in
theorem stands_s : ∀ k (s : St) (id z : Int) σ, wf s → 120 ≤ k → readW (callW Tryz.prog (exec Tryz.prog cfg k)) 63 [.agg (cS s), I id, I z] σ = some (.bool (decide (sta s id z)), σ) := by
 intro k s id z σ hyp0 hk
 obtain ⟨k, rfl⟩ : ∃ k', k = k' + 60 := ⟨k - 60, by omega⟩
 have hw1 := hyp0.1
 have hw2 := hyp0.2
 have hlm : ((s.objs).map E).length = s.objs.length := List.length_map _
 refine reader_of Tryz.func63 rfl (by simp only [AV.frees, AV.free, fr_I, fr_E, fr_cO, fr_cL, fr_cS, Bool.and_self]) ?_
 refine X.seq (X.region (OK.seg 2 (by kernel_rfl) (OK.nil ?_)))
 refine X.seq (X.region (OK.seg 1 (by kernel_rfl) ?_))
 refine OK.dec (id ≥ 0) (by kernel_rfl) (by kernel_rfl) (fun h1 => ?_) (fun h1 => ?_)
 rotate_left
 ·
  refine OK.seg 18 (by kernel_rfl) (OK.nil ?_)
  refine X.ret ?_
  exact ⟨rfl, giv (r := .bool false) (by kernel_rfl) (bool_f (p := sta s id z) (by intro hh; simp only [sta] at hh; omega))⟩
 refine OK.seg 5 (by kernel_rfl) ?_
 refine OK.dec (id < ((((s.objs).map E).length : Nat) : Int)) (by kernel_rfl) (by kernel_rfl) (fun h2 => ?_) (fun h2 => ?_)
 rotate_left
 ·
  refine OK.seg 12 (by kernel_rfl) (OK.nil ?_)
  refine X.ret ?_
  exact ⟨rfl, giv (r := .bool false) (by kernel_rfl) (bool_f (p := sta s id z) (by intro hh; simp only [sta] at hh; omega))⟩
 refine OK.seg 5 (by kernel_rfl) ?_
 refine OK.val (.ro (cO ((s.objs).getD id.toNat o0)) 0) (by kernel_rfl) (fun _ => idx_map (sz := 18) (g := E) (d := o0) (xs := s.objs) (ex := false) (k := .i64) (n := id) rfl Tryz.underlying22 (by kernel_rfl) (by kernel_rfl) (by kernel_rfl) (by kernel_rfl) (by omega) (by omega)) ?_
 refine OK.seg 3 (by kernel_rfl) ?_
 refine OK.dec ((((s.objs).getD id.toNat o0) 3) = z) (by kernel_rfl) (by kernel_rfl) (fun h3 => ?_) (fun h3 => ?_)
 rotate_left
 ·
  refine OK.seg 2 (by kernel_rfl) (OK.nil ?_)
  refine X.ret ?_
  exact ⟨rfl, giv (r := .bool false) (by kernel_rfl) (bool_f (p := sta s id z) (by intro hh; simp only [sta] at hh; omega))⟩
 refine OK.seg 2 (by kernel_rfl) (OK.nil ?_)
 refine X.ret ?_
 exact ⟨rfl, giv (r := .bool true) (by kernel_rfl) (bool_t (p := sta s id z) (by first | exact ⟨by omega, by omega, by omega⟩ | (simp only [sta]; omega)))⟩
set_option maxHeartbeats 1000000 in
theorem at_s : ∀ k (s : St) (id z : Int) σ, wf s → 120 ≤ k → readW (callW Tryz.prog (exec Tryz.prog cfg k)) 66 [.agg (cS s), I id, I z] σ = some (.bool (decide (sta s id z)), σ) := by
 intro k s id z σ hyp0 hk
 obtain ⟨k, rfl⟩ : ∃ k', k = k' + 60 := ⟨k - 60, by omega⟩
 have hw1 := hyp0.1
 have hw2 := hyp0.2
 have hlm : ((s.objs).map E).length = s.objs.length := List.length_map _
 refine reader_of Tryz.func66 rfl (by simp only [AV.frees, AV.free, fr_I, fr_E, fr_cO, fr_cL, fr_cS, Bool.and_self]) ?_
 refine X.seq (X.region (OK.seg 2 (by kernel_rfl) (OK.nil ?_)))
 refine X.seq (X.region (OK.seg 1 (by kernel_rfl) ?_))
 refine OK.dec (id ≥ 0) (by kernel_rfl) (by kernel_rfl) (fun h1 => ?_) (fun h1 => ?_)
 rotate_left
 ·
  refine OK.seg 18 (by kernel_rfl) (OK.nil ?_)
  refine X.ret ?_
  exact ⟨rfl, giv (r := .bool false) (by kernel_rfl) (bool_f (p := sta s id z) (by intro hh; simp only [sta] at hh; omega))⟩
 refine OK.seg 5 (by kernel_rfl) ?_
 refine OK.dec (id < ((((s.objs).map E).length : Nat) : Int)) (by kernel_rfl) (by kernel_rfl) (fun h2 => ?_) (fun h2 => ?_)
 rotate_left
 ·
  refine OK.seg 12 (by kernel_rfl) (OK.nil ?_)
  refine X.ret ?_
  exact ⟨rfl, giv (r := .bool false) (by kernel_rfl) (bool_f (p := sta s id z) (by intro hh; simp only [sta] at hh; omega))⟩
 refine OK.seg 5 (by kernel_rfl) ?_
 refine OK.val (.ro (cO ((s.objs).getD id.toNat o0)) 0) (by kernel_rfl) (fun _ => idx_map (sz := 18) (g := E) (d := o0) (xs := s.objs) (ex := false) (k := .i64) (n := id) rfl Tryz.underlying22 (by kernel_rfl) (by kernel_rfl) (by kernel_rfl) (by kernel_rfl) (by omega) (by omega)) ?_
 refine OK.seg 3 (by kernel_rfl) ?_
 refine OK.dec ((((s.objs).getD id.toNat o0) 3) = z) (by kernel_rfl) (by kernel_rfl) (fun h3 => ?_) (fun h3 => ?_)
 rotate_left
 ·
  refine OK.seg 2 (by kernel_rfl) (OK.nil ?_)
  refine X.ret ?_
  exact ⟨rfl, giv (r := .bool false) (by kernel_rfl) (bool_f (p := sta s id z) (by intro hh; simp only [sta] at hh; omega))⟩
 refine OK.seg 2 (by kernel_rfl) (OK.nil ?_)
 refine X.ret ?_
 exact ⟨rfl, giv (r := .bool true) (by kernel_rfl) (bool_t (p := sta s id z) (by first | exact ⟨by omega, by omega, by omega⟩ | (simp only [sta]; omega)))⟩
set_option maxHeartbeats 1000000 in
theorem tkind_w : ∀ k (s : St) (id : Int) σ, wf s → okR s → (0 ≤ id ∧ id < s.objs.length) → 600 ≤ k → readW (callW Tryz.prog (exec Tryz.prog cfg k)) 191 [.agg (cS s), I id] σ = some (.tuple [.agg (cC (cdN ((s.objs.getD id.toNat o0) 0))), .bool true], σ) := by
 intro k s id σ hyp0 hyp1 hyp2 hk
 obtain ⟨k, rfl⟩ : ∃ k', k = k' + 60 := ⟨k - 60, by omega⟩
 have hw1 := hyp0.1
 have hw2 := hyp0.2
 have hlm : ((s.objs).map E).length = s.objs.length := List.length_map _
 have hok := hyp1
 obtain ⟨h0, h1⟩ := hyp2
 obtain ⟨hc0, hc1⟩ := ok_card hok h0 h1
 refine reader_of Tryz.func191 rfl (by simp only [AV.frees, AV.free, fr_I, fr_E, fr_cO, fr_cL, fr_cS, Bool.and_self]) ?_
 refine X.seq (X.region (OK.seg 3 (by kernel_rfl) (OK.nil ?_)))
 refine X.seq (X.seq (X.region (OK.seg 1 (by kernel_rfl) ?_)))
 refine OK.dec (id < 0) (by kernel_rfl) (by kernel_rfl) (fun h1 => ?_) (fun h1 => ?_)
 · exfalso; omega
 refine OK.seg 5 (by kernel_rfl) ?_
 refine OK.dec (id ≥ ((((s.objs).map E).length : Nat) : Int)) (by kernel_rfl) (by kernel_rfl) (fun h2 => ?_) (fun h2 => ?_)
 · exfalso; omega
 refine OK.seg 1 (by kernel_rfl) (OK.nil ?_)
 refine X.condF (by kernel_rfl) ?_
 refine X.skip (X.seq (X.region (OK.seg 3 (by kernel_rfl) ?_)))
 refine OK.val (.ro (cO ((s.objs).getD id.toNat o0)) 0) (by kernel_rfl) (fun _ => idx_map (sz := 18) (g := E) (d := o0) (xs := s.objs) (ex := false) (k := .i64) (n := id) rfl Tryz.underlying22 (by kernel_rfl) (by kernel_rfl) (by kernel_rfl) (by kernel_rfl) (by omega) (by omega)) ?_
 refine OK.seg 2 (by kernel_rfl) ?_
 refine OK.rd [I (((s.objs).getD id.toNat o0) 0)] [I (((s.objs).getD id.toNat o0) 0)] (.tuple [.agg (cC (cdN (((s.objs).getD id.toNat o0) 0))), .nilIface]) rfl (by kernel_rfl) rfl (by kernel_rfl) (by kernel_rfl) (by kernel_rfl) (by kernel_rfl) (by kernel_rfl) (tcard (((s.objs).getD id.toNat o0) 0) (by omega) (by omega) _ _ (by omega)) ?_
 refine OK.seg 6 (by kernel_rfl) (OK.nil ?_)
 refine X.seq (X.draw (by kernel_rfl) (by kernel_rfl) (by kernel_rfl) ?_)
 refine DK.seg 5 (by kernel_rfl) (DK.nil ?_)
 refine X.ret ?_
 exact ⟨rfl, giv2 (vs := [.agg (cC (cdN (((s.objs).getD id.toNat o0) 0))), .bool true]) (σ' := [.box (cS s) false, .box (cC (cdN (((s.objs).getD id.toNat o0) 0))) false, .box (cC (cdN (((s.objs).getD id.toNat o0) 0))) false]) (by kernel_rfl) (by kernel_rfl) (by simp only [AV.free, AV.frees, fr_I, fr_E, fr_cO, fr_cL, fr_cS, fr_cC, fr_aC, fr_Am, fr_cD, fr_aD, fr_ADm, fr_EFm, fr_eC, Bool.and_self])⟩
set_option maxHeartbeats 1000000 in
theorem tkind_o : ∀ k (s : St) (id : Int) σ, wf s → ¬ (0 ≤ id ∧ id < s.objs.length) → 600 ≤ k → readW (callW Tryz.prog (exec Tryz.prog cfg k)) 191 [.agg (cS s), I id] σ = some (.tuple [.agg (cC c0), .bool false], σ) := by
 intro k s id σ hyp0 hyp1 hk
 obtain ⟨k, rfl⟩ : ∃ k', k = k' + 60 := ⟨k - 60, by omega⟩
 have hw1 := hyp0.1
 have hw2 := hyp0.2
 have hlm : ((s.objs).map E).length = s.objs.length := List.length_map _
 refine reader_of Tryz.func191 rfl (by simp only [AV.frees, AV.free, fr_I, fr_E, fr_cO, fr_cL, fr_cS, Bool.and_self]) ?_
 refine X.seq (X.region (OK.seg 3 (by kernel_rfl) (OK.nil ?_)))
 refine X.seq (X.seq (X.region (OK.seg 1 (by kernel_rfl) ?_)))
 refine OK.dec (id < 0) (by kernel_rfl) (by kernel_rfl) (fun h1 => ?_) (fun h1 => ?_)
 ·
  refine OK.seg 7 (by kernel_rfl) (OK.nil ?_)
  refine X.condT (by kernel_rfl) ?_
  refine X.seq (X.region (OK.seg 3 (by kernel_rfl) (OK.nil ?_)))
  refine X.ret ?_
  exact ⟨rfl, giv2 (vs := [.agg [I 0, I 0, .bool false, I 0, I 0, I 0, I 0, I 0, I 0, I 0, I 0, I 0, .list [] true], .bool false]) (σ' := [.box (cS s) false, .box [I 0, I 0, .bool false, I 0, I 0, I 0, I 0, I 0, I 0, I 0, I 0, I 0, .list [] true] false]) (by kernel_rfl) (by kernel_rfl) (by simp only [AV.free, AV.frees, fr_I, fr_E, fr_cO, fr_cL, fr_cS, fr_cC, fr_aC, fr_Am, fr_cD, fr_aD, fr_ADm, fr_EFm, fr_eC, Bool.and_self])⟩
 refine OK.seg 5 (by kernel_rfl) ?_
 refine OK.dec (id ≥ ((((s.objs).map E).length : Nat) : Int)) (by kernel_rfl) (by kernel_rfl) (fun h2 => ?_) (fun h2 => ?_)
 rotate_left
 · exfalso; omega
 refine OK.seg 1 (by kernel_rfl) (OK.nil ?_)
 refine X.condT (by kernel_rfl) ?_
 refine X.seq (X.region (OK.seg 3 (by kernel_rfl) (OK.nil ?_)))
 refine X.ret ?_
 exact ⟨rfl, giv2 (vs := [.agg [I 0, I 0, .bool false, I 0, I 0, I 0, I 0, I 0, I 0, I 0, I 0, I 0, .list [] true], .bool false]) (σ' := [.box (cS s) false, .box [I 0, I 0, .bool false, I 0, I 0, I 0, I 0, I 0, I 0, I 0, I 0, I 0, .list [] true] false]) (by kernel_rfl) (by kernel_rfl) (by simp only [AV.free, AV.frees, fr_I, fr_E, fr_cO, fr_cL, fr_cS, fr_cC, fr_aC, fr_Am, fr_cD, fr_aD, fr_ADm, fr_EFm, fr_eC, Bool.and_self])⟩
set_option maxHeartbeats 1000000 in
theorem has_i : ∀ k (s : St) (id n : Int) σ, wf s → okR s → (0 ≤ id ∧ id < s.objs.length) → 800 ≤ k → readW (callW Tryz.prog (exec Tryz.prog cfg k)) 190 [.agg (cS s), I id, I n] σ = some (.bool (decide (hasA s id n)), σ) := by
 intro k s id n σ hyp0 hyp1 hyp2 hk
 obtain ⟨k, rfl⟩ : ∃ k', k = k' + 60 := ⟨k - 60, by omega⟩
 have hw1 := hyp0.1
 have hw2 := hyp0.2
 have hlm : ((s.objs).map E).length = s.objs.length := List.length_map _
 have hok := hyp1
 obtain ⟨h0, h1⟩ := hyp2
 obtain ⟨hc0, hc1⟩ := ok_card hok h0 h1
 have hcl : (((cdN ((s.objs.getD id.toNat o0) 0)).abs).map A).length = (cdN ((s.objs.getD id.toNat o0) 0)).abs.length := List.length_map _
 have hcd : (((cdN ((s.objs.getD id.toNat o0) 0)).abs).map AD).length = (cdN ((s.objs.getD id.toNat o0) 0)).abs.length := List.length_map _
 have hck : (cdN ((s.objs.getD id.toNat o0) 0)).abs.length ≤ 4 := cdN_ok _
 refine reader_of Tryz.func190 rfl (by simp only [AV.frees, AV.free, fr_I, fr_E, fr_cO, fr_cL, fr_cS, Bool.and_self]) ?_
 refine X.seq (X.region (OK.seg 2 (by kernel_rfl) (OK.nil ?_)))
 refine X.seq (X.region (OK.seg 2 (by kernel_rfl) ?_))
 refine OK.rd [.agg (cS s), I id] [.agg (cS s), I id] (.tuple [.agg (cC (cdN (s.objs.getD id.toNat o0 0))), .bool true]) rfl (by kernel_rfl) rfl (by kernel_rfl) (by kernel_rfl) (by kernel_rfl) (by kernel_rfl) (by kernel_rfl) (tkind_w _ _ _ _ hyp0 hok (by omega) (by omega)) ?_
 refine OK.seg 6 (by kernel_rfl) (OK.nil ?_)
 refine X.seq (X.region (OK.seg 3 (by kernel_rfl) ?_))
 refine OK.dec (n ≥ 0) (by kernel_rfl) (by kernel_rfl) (fun h1 => ?_) (fun h1 => ?_)
 rotate_left
 ·
  refine OK.seg 9 (by kernel_rfl) (OK.nil ?_)
  refine X.ret ?_
  exact ⟨rfl, giv (r := .bool false) (by kernel_rfl) (bool_f (p := hasA s id n) (by intro hh; simp only [hasA, cdO] at hh; omega))⟩
 refine OK.seg 6 (by kernel_rfl) ?_
 refine OK.dec (n < (((((cdN (s.objs.getD id.toNat o0 0)).abs).map A).length : Nat) : Int)) (by kernel_rfl) (by kernel_rfl) (fun h2 => ?_) (fun h2 => ?_)
 ·
  refine OK.seg 2 (by kernel_rfl) (OK.nil ?_)
  refine X.ret ?_
  exact ⟨rfl, giv (r := .bool true) (by kernel_rfl) (bool_t (p := hasA s id n) (by simp only [hasA, cdO]; omega))⟩
 refine OK.seg 2 (by kernel_rfl) (OK.nil ?_)
 refine X.ret ?_
 exact ⟨rfl, giv (r := .bool false) (by kernel_rfl) (bool_f (p := hasA s id n) (by intro hh; simp only [hasA, cdO] at hh; omega))⟩
set_option maxHeartbeats 1000000 in
theorem has_o : ∀ k (s : St) (id n : Int) σ, wf s → okR s → ¬ (0 ≤ id ∧ id < s.objs.length) → 800 ≤ k → readW (callW Tryz.prog (exec Tryz.prog cfg k)) 190 [.agg (cS s), I id, I n] σ = some (.bool (decide (hasA s id n)), σ) := by
 intro k s id n σ hyp0 hyp1 hyp2 hk
 obtain ⟨k, rfl⟩ : ∃ k', k = k' + 60 := ⟨k - 60, by omega⟩
 have hw1 := hyp0.1
 have hw2 := hyp0.2
 have hlm : ((s.objs).map E).length = s.objs.length := List.length_map _
 refine reader_of Tryz.func190 rfl (by simp only [AV.frees, AV.free, fr_I, fr_E, fr_cO, fr_cL, fr_cS, Bool.and_self]) ?_
 refine X.seq (X.region (OK.seg 2 (by kernel_rfl) (OK.nil ?_)))
 refine X.seq (X.region (OK.seg 2 (by kernel_rfl) ?_))
 refine OK.rd [.agg (cS s), I id] [.agg (cS s), I id] (.tuple [.agg (cC c0), .bool false]) rfl (by kernel_rfl) rfl (by kernel_rfl) (by kernel_rfl) (by kernel_rfl) (by kernel_rfl) (by kernel_rfl) (tkind_o _ _ _ _ hyp0 (by omega) (by omega)) ?_
 refine OK.seg 6 (by kernel_rfl) (OK.nil ?_)
 refine X.seq (X.region (OK.seg 13 (by kernel_rfl) (OK.nil ?_)))
 refine X.ret ?_
 exact ⟨rfl, giv (r := .bool false) (by kernel_rfl) (bool_f (p := hasA s id n) (by intro hh; simp only [hasA, cdO] at hh; omega))⟩
theorem has_w' (s : St) (id n : Int) : ∀ k σ, wf s → okR s → 800 ≤ k → readW (callW Tryz.prog (exec Tryz.prog cfg k)) 190 [.agg (cS s), I id, I n] σ = some (.bool (decide (hasA s id n)), σ) := by
  intro k σ h1 h2 hk
  by_cases h : 0 ≤ id ∧ id < s.objs.length
  · exact has_i k s id n σ h1 h2 h hk
  · exact has_o k s id n σ h1 h2 h hk
set_option maxHeartbeats 1000000 in
theorem rHas_w : ∀ k (s : St) (id n : Int) σ, wf s → okR s → 800 ≤ k → readW (callW Tryz.prog (exec Tryz.prog cfg k)) 193 [.agg (cS s), I id, I n] σ = some (.bool (decide (hasA s id n)), σ) := by
 intro k s id n σ hyp0 hyp1 hk
 obtain ⟨k, rfl⟩ : ∃ k', k = k' + 60 := ⟨k - 60, by omega⟩
 have hw1 := hyp0.1
 have hw2 := hyp0.2
 have hlm : ((s.objs).map E).length = s.objs.length := List.length_map _
 have hok := hyp1
 have hcr := fun (h0 : 0 ≤ id) (h1 : id < s.objs.length) => ok_card hok h0 h1
 have hcd : (((cdN ((s.objs.getD id.toNat o0) 0)).abs).map AD).length = (cdN ((s.objs.getD id.toNat o0) 0)).abs.length := List.length_map _
 have hck : (cdN ((s.objs.getD id.toNat o0) 0)).abs.length ≤ 4 := cdN_ok _
 refine reader_of Tryz.func193 rfl (by simp only [AV.frees, AV.free, fr_I, fr_E, fr_cO, fr_cL, fr_cS, Bool.and_self]) ?_
 refine X.seq (X.region (OK.seg 2 (by kernel_rfl) (OK.nil ?_)))
 refine X.seq (X.seq (X.region (OK.seg 1 (by kernel_rfl) ?_)))
 refine OK.dec (id < 0) (by kernel_rfl) (by kernel_rfl) (fun h1 => ?_) (fun h1 => ?_)
 ·
  refine OK.seg 7 (by kernel_rfl) (OK.nil ?_)
  refine X.condT (by kernel_rfl) ?_
  refine X.seq (X.region (OK.seg 1 (by kernel_rfl) (OK.nil ?_)))
  refine X.ret ?_
  exact ⟨rfl, giv (r := .bool false) (by kernel_rfl) (bool_f (p := hasA s id n) (by intro hh; simp only [hasA, cdO] at hh; omega))⟩
 refine OK.seg 5 (by kernel_rfl) ?_
 refine OK.dec (id ≥ ((((s.objs).map E).length : Nat) : Int)) (by kernel_rfl) (by kernel_rfl) (fun h2 => ?_) (fun h2 => ?_)
 ·
  refine OK.seg 1 (by kernel_rfl) (OK.nil ?_)
  refine X.condT (by kernel_rfl) ?_
  refine X.seq (X.region (OK.seg 1 (by kernel_rfl) (OK.nil ?_)))
  refine X.ret ?_
  exact ⟨rfl, giv (r := .bool false) (by kernel_rfl) (bool_f (p := hasA s id n) (by intro hh; simp only [hasA, cdO] at hh; omega))⟩
 refine OK.seg 1 (by kernel_rfl) (OK.nil ?_)
 refine X.condF (by kernel_rfl) ?_
 refine X.skip (X.seq (X.region (OK.seg 3 (by kernel_rfl) ?_)))
 refine OK.val (.ro (cO ((s.objs).getD id.toNat o0)) 0) (by kernel_rfl) (fun _ => idx_map (sz := 18) (g := E) (d := o0) (xs := s.objs) (ex := false) (k := .i64) (n := id) rfl Tryz.underlying22 (by kernel_rfl) (by kernel_rfl) (by kernel_rfl) (by kernel_rfl) (by omega) (by omega)) ?_
 refine OK.seg 2 (by kernel_rfl) ?_
 refine OK.rd [I (((s.objs).getD id.toNat o0) 0)] [I (((s.objs).getD id.toNat o0) 0)] (.tuple [.agg (cD (cdN (((s.objs).getD id.toNat o0) 0))), .bool true]) rfl (by kernel_rfl) rfl (by kernel_rfl) (by kernel_rfl) (by kernel_rfl) (by kernel_rfl) (by kernel_rfl) (rcard (((s.objs).getD id.toNat o0) 0) (by omega) (by omega) _ _ (by omega)) ?_
 refine OK.seg 6 (by kernel_rfl) (OK.nil ?_)
 refine X.seq (X.region (OK.seg 1 (by kernel_rfl) ?_))
 refine OK.dec (n ≥ 0) (by kernel_rfl) (by kernel_rfl) (fun h3 => ?_) (fun h3 => ?_)
 rotate_left
 ·
  refine OK.seg 8 (by kernel_rfl) (OK.nil ?_)
  refine X.ret ?_
  exact ⟨rfl, giv (r := .bool false) (by kernel_rfl) (bool_f (p := hasA s id n) (by intro hh; simp only [hasA, cdO] at hh; omega))⟩
 refine OK.seg 5 (by kernel_rfl) ?_
 refine OK.dec (n < (((((cdN (((s.objs).getD id.toNat o0) 0)).abs).map AD).length : Nat) : Int)) (by kernel_rfl) (by kernel_rfl) (fun h4 => ?_) (fun h4 => ?_)
 ·
  refine OK.seg 2 (by kernel_rfl) (OK.nil ?_)
  refine X.ret ?_
  exact ⟨rfl, giv (r := .bool true) (by kernel_rfl) (bool_t (p := hasA s id n) (by simp only [hasA, cdO]; omega))⟩
 refine OK.seg 2 (by kernel_rfl) (OK.nil ?_)
 refine X.ret ?_
 exact ⟨rfl, giv (r := .bool false) (by kernel_rfl) (bool_f (p := hasA s id n) (by intro hh; simp only [hasA, cdO] at hh; omega))⟩
def abN (s : St) (id : Int) : Int := (s.objs.getD id.toNat o0) 14
def ofP (s : St) (id : Int) : Prop := (0 ≤ id ∧ id < s.objs.length) ∧ (s.objs.getD id.toNat o0) 13 = 2 ∧ hasA s id (abN s id)
instance (s : St) (id : Int) : Decidable (ofP s id) := inferInstanceAs (Decidable (_ ∧ _ ∧ _))
def ofA (s : St) (id : Int) : Ab := if ofP s id then (cdO s id).abs.getD (abN s id).toNat a0 else a0
theorem of_yes {s : St} {id : Int} (h : ofP s id) {b : Bool} (hb : b = true) : AV.tuple [.agg (aC ((cdO s id).abs.getD (abN s id).toNat a0)), .bool b] = .tuple [.agg (aC (ofA s id)), .bool (decide (ofP s id))] := by
  rw [ofA, if_pos h, hb, decide_eq_true h]
theorem of_no {s : St} {id : Int} (h : ¬ ofP s id) : AV.tuple [.agg (aC a0), .bool false] = .tuple [.agg (aC (ofA s id)), .bool (decide (ofP s id))] := by
  rw [ofA, if_neg h, decide_eq_false h]
set_option maxHeartbeats 1000000 in
theorem Of_w : ∀ k (s : St) (id : Int) σ, wf s → okR s → 1000 ≤ k → readW (callW Tryz.prog (exec Tryz.prog cfg k)) 114 [.agg (cS s), I id] σ = some (.tuple [.agg (aC (ofA s id)), .bool (decide (ofP s id))], σ) := by
 intro k s id σ hyp0 hyp1 hk
 obtain ⟨k, rfl⟩ : ∃ k', k = k' + 60 := ⟨k - 60, by omega⟩
 have hw1 := hyp0.1
 have hw2 := hyp0.2
 have hlm : ((s.objs).map E).length = s.objs.length := List.length_map _
 have hok := hyp1
 have hcr := fun (h0 : 0 ≤ id) (h1 : id < s.objs.length) => ok_card hok h0 h1
 have hcl : (((cdN ((s.objs.getD id.toNat o0) 0)).abs).map A).length = (cdN ((s.objs.getD id.toNat o0) 0)).abs.length := List.length_map _
 have hcd : (((cdN ((s.objs.getD id.toNat o0) 0)).abs).map AD).length = (cdN ((s.objs.getD id.toNat o0) 0)).abs.length := List.length_map _
 have hck : (cdN ((s.objs.getD id.toNat o0) 0)).abs.length ≤ 4 := cdN_ok _
 have hsx : hasA s id (s.objs.getD id.toNat o0 14) → 0 ≤ s.objs.getD id.toNat o0 14 ∧ s.objs.getD id.toNat o0 14 < (cdN ((s.objs.getD id.toNat o0) 0)).abs.length := fun h => h.2
 refine reader_of Tryz.func114 rfl (by simp only [AV.frees, AV.free, fr_I, fr_E, fr_cO, fr_cL, fr_cS, Bool.and_self]) ?_
 refine X.seq (X.region (OK.seg 3 (by kernel_rfl) (OK.nil ?_)))
 refine X.seq (X.seq (X.region (OK.seg 1 (by kernel_rfl) ?_)))
 refine OK.dec (id < 0) (by kernel_rfl) (by kernel_rfl) (fun h1 => ?_) (fun h1 => ?_)
 ·
  refine OK.seg 16 (by kernel_rfl) (OK.nil ?_)
  refine X.condT (by kernel_rfl) ?_
  refine X.seq (X.region (OK.seg 3 (by kernel_rfl) (OK.nil ?_)))
  refine X.ret ?_
  exact ⟨rfl, giv (r := .tuple [.agg [I 0, I 0, I 0, I 0, I 0, I 0, I 0, .bool false, I 0, I 0, I 0, I 0, I 0, .list [] false], .bool false]) (giv2 (vs := [.agg [I 0, I 0, I 0, I 0, I 0, I 0, I 0, .bool false, I 0, I 0, I 0, I 0, I 0, .list [] true], .bool false]) (σ' := [.box (cS s) false, .box [I 0, I 0, I 0, I 0, I 0, I 0, I 0, .bool false, I 0, I 0, I 0, I 0, I 0, .list [] true] false]) (by kernel_rfl) (by kernel_rfl) (by simp only [AV.free, AV.frees, fr_I, fr_E, fr_cO, fr_cL, fr_cS, fr_cC, fr_aC, fr_Am, fr_cD, fr_aD, fr_ADm, fr_EFm, fr_eC, Bool.and_self])) (by refine of_no ?_; intro hh; first | omega | exact absurd hh.2.2 (by assumption) | (have q := hh.1; have q2 := hh.2.1; omega))⟩
 refine OK.seg 5 (by kernel_rfl) ?_
 refine OK.dec (id ≥ ((((s.objs).map E).length : Nat) : Int)) (by kernel_rfl) (by kernel_rfl) (fun h2 => ?_) (fun h2 => ?_)
 ·
  refine OK.seg 10 (by kernel_rfl) (OK.nil ?_)
  refine X.condT (by kernel_rfl) ?_
  refine X.seq (X.region (OK.seg 3 (by kernel_rfl) (OK.nil ?_)))
  refine X.ret ?_
  exact ⟨rfl, giv (r := .tuple [.agg [I 0, I 0, I 0, I 0, I 0, I 0, I 0, .bool false, I 0, I 0, I 0, I 0, I 0, .list [] false], .bool false]) (giv2 (vs := [.agg [I 0, I 0, I 0, I 0, I 0, I 0, I 0, .bool false, I 0, I 0, I 0, I 0, I 0, .list [] true], .bool false]) (σ' := [.box (cS s) false, .box [I 0, I 0, I 0, I 0, I 0, I 0, I 0, .bool false, I 0, I 0, I 0, I 0, I 0, .list [] true] false]) (by kernel_rfl) (by kernel_rfl) (by simp only [AV.free, AV.frees, fr_I, fr_E, fr_cO, fr_cL, fr_cS, fr_cC, fr_aC, fr_Am, fr_cD, fr_aD, fr_ADm, fr_EFm, fr_eC, Bool.and_self])) (by refine of_no ?_; intro hh; first | omega | exact absurd hh.2.2 (by assumption) | (have q := hh.1; have q2 := hh.2.1; omega))⟩
 refine OK.seg 5 (by kernel_rfl) ?_
 refine OK.val (.ro (cO ((s.objs).getD id.toNat o0)) 0) (by kernel_rfl) (fun _ => idx_map (sz := 18) (g := E) (d := o0) (xs := s.objs) (ex := false) (k := .i64) (n := id) rfl Tryz.underlying22 (by kernel_rfl) (by kernel_rfl) (by kernel_rfl) (by kernel_rfl) (by first | omega | (have q := hsx (by assumption); omega)) (by first | omega | (have q := hsx (by assumption); omega))) ?_
 refine OK.seg 2 (by kernel_rfl) ?_
 refine OK.ndec ((((s.objs).getD id.toNat o0) 13) = 2) (by kernel_rfl) (by kernel_rfl) (fun h3 => ?_) (fun h3 => ?_)
 ·
  refine OK.seg 1 (by kernel_rfl) (OK.nil ?_)
  refine X.condT (by kernel_rfl) ?_
  refine X.seq (X.region (OK.seg 3 (by kernel_rfl) (OK.nil ?_)))
  refine X.ret ?_
  exact ⟨rfl, giv (r := .tuple [.agg [I 0, I 0, I 0, I 0, I 0, I 0, I 0, .bool false, I 0, I 0, I 0, I 0, I 0, .list [] false], .bool false]) (giv2 (vs := [.agg [I 0, I 0, I 0, I 0, I 0, I 0, I 0, .bool false, I 0, I 0, I 0, I 0, I 0, .list [] true], .bool false]) (σ' := [.box (cS s) false, .box [I 0, I 0, I 0, I 0, I 0, I 0, I 0, .bool false, I 0, I 0, I 0, I 0, I 0, .list [] true] false]) (by kernel_rfl) (by kernel_rfl) (by simp only [AV.free, AV.frees, fr_I, fr_E, fr_cO, fr_cL, fr_cS, fr_cC, fr_aC, fr_Am, fr_cD, fr_aD, fr_ADm, fr_EFm, fr_eC, Bool.and_self])) (by refine of_no ?_; intro hh; first | omega | exact absurd hh.2.2 (by assumption) | (have q := hh.1; have q2 := hh.2.1; omega))⟩
 refine OK.seg 1 (by kernel_rfl) (OK.nil ?_)
 refine X.condF (by kernel_rfl) ?_
 refine X.skip (X.seq (X.region (OK.seg 3 (by kernel_rfl) ?_)))
 refine OK.val (.ro (cO ((s.objs).getD id.toNat o0)) 0) (by kernel_rfl) (fun _ => idx_map (sz := 18) (g := E) (d := o0) (xs := s.objs) (ex := false) (k := .i64) (n := id) rfl Tryz.underlying22 (by kernel_rfl) (by kernel_rfl) (by kernel_rfl) (by kernel_rfl) (by first | omega | (have q := hsx (by assumption); omega)) (by first | omega | (have q := hsx (by assumption); omega))) ?_
 refine OK.seg 3 (by kernel_rfl) (OK.nil ?_)
 refine X.seq (X.seq (X.region (OK.seg 3 (by kernel_rfl) ?_)))
 refine OK.rdP [.agg (cS s), I id, I (((s.objs).getD id.toNat o0) 14)] [.agg (cS s), I id, I (((s.objs).getD id.toNat o0) 14)] (hasA s id (((s.objs).getD id.toNat o0) 14)) rfl (by kernel_rfl) rfl (by kernel_rfl) (by kernel_rfl) (by kernel_rfl) (by kernel_rfl) (by kernel_rfl) (has_w' _ _ _ _ _ hyp0 hok (by omega)) (fun h4 => ?_) (fun h4 => ?_)
 rotate_left
 ·
  refine OK.seg 1 (by kernel_rfl) (OK.nil ?_)
  refine X.condT (by kernel_rfl) ?_
  refine X.seq (X.region (OK.seg 3 (by kernel_rfl) (OK.nil ?_)))
  refine X.ret ?_
  exact ⟨rfl, giv (r := .tuple [.agg [I 0, I 0, I 0, I 0, I 0, I 0, I 0, .bool false, I 0, I 0, I 0, I 0, I 0, .list [] false], .bool false]) (giv2 (vs := [.agg [I 0, I 0, I 0, I 0, I 0, I 0, I 0, .bool false, I 0, I 0, I 0, I 0, I 0, .list [] true], .bool false]) (σ' := [.box (cS s) false, .box [I 0, I 0, I 0, I 0, I 0, I 0, I 0, .bool false, I 0, I 0, I 0, I 0, I 0, .list [] true] false]) (by kernel_rfl) (by kernel_rfl) (by simp only [AV.free, AV.frees, fr_I, fr_E, fr_cO, fr_cL, fr_cS, fr_cC, fr_aC, fr_Am, fr_cD, fr_aD, fr_ADm, fr_EFm, fr_eC, Bool.and_self])) (by refine of_no ?_; intro hh; first | omega | exact absurd hh.2.2 (by assumption) | (have q := hh.1; have q2 := hh.2.1; omega))⟩
 refine OK.seg 1 (by kernel_rfl) (OK.nil ?_)
 refine X.condF (by kernel_rfl) ?_
 refine X.skip (X.seq (X.region (OK.seg 2 (by kernel_rfl) ?_)))
 refine OK.rd [.agg (cS s), I id] [.agg (cS s), I id] (.tuple [.agg (cC (cdN (s.objs.getD id.toNat o0 0))), .bool true]) rfl (by kernel_rfl) rfl (by kernel_rfl) (by kernel_rfl) (by kernel_rfl) (by kernel_rfl) (by kernel_rfl) (tkind_w _ _ _ _ hyp0 hok (by omega) (by omega)) ?_
 refine OK.seg 6 (by kernel_rfl) (OK.nil ?_)
 refine X.seq (X.region (OK.seg 3 (by kernel_rfl) ?_))
 refine OK.val (.ro (aC (((cdN (s.objs.getD id.toNat o0 0)).abs).getD (((s.objs).getD id.toNat o0) 14).toNat a0)) 0) (by kernel_rfl) (fun _ => idx_map (sz := 14) (g := A) (d := a0) (xs := (cdN (s.objs.getD id.toNat o0 0)).abs) (ex := false) (k := .i64) (n := (((s.objs).getD id.toNat o0) 14)) rfl Tryz.underlying150 (by kernel_rfl) (by kernel_rfl) (by kernel_rfl) (by kernel_rfl) (by first | omega | (have q := hsx (by assumption); omega)) (by first | omega | (have q := hsx (by assumption); omega))) ?_
 refine OK.seg 3 (by kernel_rfl) (OK.nil ?_)
 refine X.ret ?_
 exact ⟨rfl, giv (r := .tuple [.agg (aC (((cdN (s.objs.getD id.toNat o0 0)).abs).getD (((s.objs).getD id.toNat o0) 14).toNat a0)), .bool true]) (giv2 (vs := [.agg (aC (((cdN (s.objs.getD id.toNat o0 0)).abs).getD (((s.objs).getD id.toNat o0) 14).toNat a0)), .bool true]) (σ' := [.box (cS s) false, .box (aC (((cdN (s.objs.getD id.toNat o0 0)).abs).getD (((s.objs).getD id.toNat o0) 14).toNat a0)) false, .box (cC (cdN (s.objs.getD id.toNat o0 0))) false]) (by kernel_rfl) (by kernel_rfl) (by simp only [AV.free, AV.frees, fr_I, fr_E, fr_cO, fr_cL, fr_cS, fr_cC, fr_aC, fr_Am, fr_cD, fr_aD, fr_ADm, fr_EFm, fr_eC, Bool.and_self])) (by exact of_yes (s := s) (id := id) (by first | exact ⟨⟨by omega, by omega⟩, by omega, by assumption⟩ | (simp only [ofP, hasA, abN, cdO] at *; omega)) rfl)⟩
set_option maxHeartbeats 1000000 in
theorem rOf_w : ∀ k (s : St) (id : Int) σ, wf s → okR s → 1000 ≤ k → readW (callW Tryz.prog (exec Tryz.prog cfg k)) 117 [.agg (cS s), I id] σ = some (.tuple [.agg (aC (ofA s id)), .bool (decide (ofP s id))], σ) := by
 intro k s id σ hyp0 hyp1 hk
 obtain ⟨k, rfl⟩ : ∃ k', k = k' + 60 := ⟨k - 60, by omega⟩
 have hw1 := hyp0.1
 have hw2 := hyp0.2
 have hlm : ((s.objs).map E).length = s.objs.length := List.length_map _
 have hok := hyp1
 have hcr := fun (h0 : 0 ≤ id) (h1 : id < s.objs.length) => ok_card hok h0 h1
 have hcl : (((cdN ((s.objs.getD id.toNat o0) 0)).abs).map A).length = (cdN ((s.objs.getD id.toNat o0) 0)).abs.length := List.length_map _
 have hcd : (((cdN ((s.objs.getD id.toNat o0) 0)).abs).map AD).length = (cdN ((s.objs.getD id.toNat o0) 0)).abs.length := List.length_map _
 have hck : (cdN ((s.objs.getD id.toNat o0) 0)).abs.length ≤ 4 := cdN_ok _
 have hsx : hasA s id (s.objs.getD id.toNat o0 14) → 0 ≤ s.objs.getD id.toNat o0 14 ∧ s.objs.getD id.toNat o0 14 < (cdN ((s.objs.getD id.toNat o0) 0)).abs.length := fun h => h.2
 refine reader_of Tryz.func117 rfl (by simp only [AV.frees, AV.free, fr_I, fr_E, fr_cO, fr_cL, fr_cS, Bool.and_self]) ?_
 refine X.seq (X.region (OK.seg 3 (by kernel_rfl) (OK.nil ?_)))
 refine X.seq (X.seq (X.draw (by kernel_rfl) (by kernel_rfl) (by kernel_rfl) ?_))
 refine DK.seg 1 (by kernel_rfl) ?_
 refine DK.dec (id < 0) (by kernel_rfl) (by kernel_rfl) (fun h1 => ?_) (fun h1 => ?_)
 ·
  refine DK.seg 28 (by kernel_rfl) (DK.nil ?_)
  refine X.condT (by kernel_rfl) ?_
  refine X.seq (X.region (OK.seg 3 (by kernel_rfl) (OK.nil ?_)))
  refine X.ret ?_
  exact ⟨rfl, giv (r := .tuple [.agg [I 0, I 0, I 0, I 0, I 0, I 0, I 0, .bool false, I 0, I 0, I 0, I 0, I 0, .list [] false], .bool false]) (giv2 (vs := [.agg [I 0, I 0, I 0, I 0, I 0, I 0, I 0, .bool false, I 0, I 0, I 0, I 0, I 0, .list [] true], .bool false]) (σ' := [.box (cS s) false, .box [I 0, I 0, I 0, I 0, I 0, I 0, I 0, .bool false, I 0, I 0, I 0, I 0, I 0, .list [] true] false]) (by kernel_rfl) (by kernel_rfl) (by simp only [AV.free, AV.frees, fr_I, fr_E, fr_cO, fr_cL, fr_cS, fr_cC, fr_aC, fr_Am, fr_cD, fr_aD, fr_ADm, fr_EFm, fr_eC, Bool.and_self])) (by refine of_no ?_; intro hh; first | omega | exact absurd hh.2.2 (by assumption) | (have q := hh.1; have q2 := hh.2.1; omega))⟩
 refine DK.seg 5 (by kernel_rfl) ?_
 refine DK.dec (id ≥ ((((s.objs).map E).length : Nat) : Int)) (by kernel_rfl) (by kernel_rfl) (fun h2 => ?_) (fun h2 => ?_)
 ·
  refine DK.seg 22 (by kernel_rfl) (DK.nil ?_)
  refine X.condT (by kernel_rfl) ?_
  refine X.seq (X.region (OK.seg 3 (by kernel_rfl) (OK.nil ?_)))
  refine X.ret ?_
  exact ⟨rfl, giv (r := .tuple [.agg [I 0, I 0, I 0, I 0, I 0, I 0, I 0, .bool false, I 0, I 0, I 0, I 0, I 0, .list [] false], .bool false]) (giv2 (vs := [.agg [I 0, I 0, I 0, I 0, I 0, I 0, I 0, .bool false, I 0, I 0, I 0, I 0, I 0, .list [] true], .bool false]) (σ' := [.box (cS s) false, .box [I 0, I 0, I 0, I 0, I 0, I 0, I 0, .bool false, I 0, I 0, I 0, I 0, I 0, .list [] true] false]) (by kernel_rfl) (by kernel_rfl) (by simp only [AV.free, AV.frees, fr_I, fr_E, fr_cO, fr_cL, fr_cS, fr_cC, fr_aC, fr_Am, fr_cD, fr_aD, fr_ADm, fr_EFm, fr_eC, Bool.and_self])) (by refine of_no ?_; intro hh; first | omega | exact absurd hh.2.2 (by assumption) | (have q := hh.1; have q2 := hh.2.1; omega))⟩
 refine DK.seg 5 (by kernel_rfl) ?_
 refine DK.val (.ro (cO ((s.objs).getD id.toNat o0)) 0) (by kernel_rfl) (fun _ => idx_map (sz := 18) (g := E) (d := o0) (xs := s.objs) (ex := false) (k := .i64) (n := id) rfl Tryz.underlying22 (by kernel_rfl) (by kernel_rfl) (by kernel_rfl) (by kernel_rfl) (by first | omega | (have q := hsx (by assumption); omega)) (by first | omega | (have q := hsx (by assumption); omega))) ?_
 refine DK.seg 2 (by kernel_rfl) ?_
 refine DK.ndec ((((s.objs).getD id.toNat o0) 13) = 2) (by kernel_rfl) (by kernel_rfl) (fun h3 => ?_) (fun h3 => ?_)
 ·
  refine DK.seg 13 (by kernel_rfl) (DK.nil ?_)
  refine X.condT (by kernel_rfl) ?_
  refine X.seq (X.region (OK.seg 3 (by kernel_rfl) (OK.nil ?_)))
  refine X.ret ?_
  exact ⟨rfl, giv (r := .tuple [.agg [I 0, I 0, I 0, I 0, I 0, I 0, I 0, .bool false, I 0, I 0, I 0, I 0, I 0, .list [] false], .bool false]) (giv2 (vs := [.agg [I 0, I 0, I 0, I 0, I 0, I 0, I 0, .bool false, I 0, I 0, I 0, I 0, I 0, .list [] true], .bool false]) (σ' := [.box (cS s) false, .box [I 0, I 0, I 0, I 0, I 0, I 0, I 0, .bool false, I 0, I 0, I 0, I 0, I 0, .list [] true] false]) (by kernel_rfl) (by kernel_rfl) (by simp only [AV.free, AV.frees, fr_I, fr_E, fr_cO, fr_cL, fr_cS, fr_cC, fr_aC, fr_Am, fr_cD, fr_aD, fr_ADm, fr_EFm, fr_eC, Bool.and_self])) (by refine of_no ?_; intro hh; first | omega | exact absurd hh.2.2 (by assumption) | (have q := hh.1; have q2 := hh.2.1; omega))⟩
 refine DK.seg 7 (by kernel_rfl) ?_
 refine DK.val (.ro (cO ((s.objs).getD id.toNat o0)) 0) (by kernel_rfl) (fun _ => idx_map (sz := 18) (g := E) (d := o0) (xs := s.objs) (ex := false) (k := .i64) (n := id) rfl Tryz.underlying22 (by kernel_rfl) (by kernel_rfl) (by kernel_rfl) (by kernel_rfl) (by first | omega | (have q := hsx (by assumption); omega)) (by first | omega | (have q := hsx (by assumption); omega))) ?_
 refine DK.seg 2 (by kernel_rfl) ?_
 refine DK.rdP [.agg (cS s), I id, I (((s.objs).getD id.toNat o0) 14)] [.agg (cS s), I id, I (((s.objs).getD id.toNat o0) 14)] (hasA s id (((s.objs).getD id.toNat o0) 14)) rfl (by kernel_rfl) rfl (by kernel_rfl) (by kernel_rfl) (by kernel_rfl) (by kernel_rfl) (by kernel_rfl) (rHas_w _ _ _ _ _ hyp0 hok (by omega)) (fun h4 => ?_) (fun h4 => ?_)
 rotate_left
 ·
  refine DK.seg 2 (by kernel_rfl) (DK.nil ?_)
  refine X.condT (by kernel_rfl) ?_
  refine X.seq (X.region (OK.seg 3 (by kernel_rfl) (OK.nil ?_)))
  refine X.ret ?_
  exact ⟨rfl, giv (r := .tuple [.agg [I 0, I 0, I 0, I 0, I 0, I 0, I 0, .bool false, I 0, I 0, I 0, I 0, I 0, .list [] false], .bool false]) (giv2 (vs := [.agg [I 0, I 0, I 0, I 0, I 0, I 0, I 0, .bool false, I 0, I 0, I 0, I 0, I 0, .list [] true], .bool false]) (σ' := [.box (cS s) false, .box [I 0, I 0, I 0, I 0, I 0, I 0, I 0, .bool false, I 0, I 0, I 0, I 0, I 0, .list [] true] false]) (by kernel_rfl) (by kernel_rfl) (by simp only [AV.free, AV.frees, fr_I, fr_E, fr_cO, fr_cL, fr_cS, fr_cC, fr_aC, fr_Am, fr_cD, fr_aD, fr_ADm, fr_EFm, fr_eC, Bool.and_self])) (by refine of_no ?_; intro hh; first | omega | exact absurd hh.2.2 (by assumption) | (have q := hh.1; have q2 := hh.2.1; omega))⟩
 refine DK.seg 2 (by kernel_rfl) (DK.nil ?_)
 refine X.condF (by kernel_rfl) ?_
 refine X.skip (X.seq (X.region (OK.seg 3 (by kernel_rfl) ?_)))
 refine OK.val (.ro (cO ((s.objs).getD id.toNat o0)) 0) (by kernel_rfl) (fun _ => idx_map (sz := 18) (g := E) (d := o0) (xs := s.objs) (ex := false) (k := .i64) (n := id) rfl Tryz.underlying22 (by kernel_rfl) (by kernel_rfl) (by kernel_rfl) (by kernel_rfl) (by first | omega | (have q := hsx (by assumption); omega)) (by first | omega | (have q := hsx (by assumption); omega))) ?_
 refine OK.seg 2 (by kernel_rfl) ?_
 refine OK.rd [I (((s.objs).getD id.toNat o0) 0)] [I (((s.objs).getD id.toNat o0) 0)] (.tuple [.agg (cD (cdN (((s.objs).getD id.toNat o0) 0))), .bool true]) rfl (by kernel_rfl) rfl (by kernel_rfl) (by kernel_rfl) (by kernel_rfl) (by kernel_rfl) (by kernel_rfl) (rcard (((s.objs).getD id.toNat o0) 0) (by omega) (by omega) _ _ (by omega)) ?_
 refine OK.seg 6 (by kernel_rfl) (OK.nil ?_)
 refine X.seq (X.draw (by kernel_rfl) (by kernel_rfl) (by kernel_rfl) ?_)
 refine DK.seg 5 (by kernel_rfl) ?_
 refine DK.val (.ro (cO ((s.objs).getD id.toNat o0)) 0) (by kernel_rfl) (fun _ => idx_map (sz := 18) (g := E) (d := o0) (xs := s.objs) (ex := false) (k := .i64) (n := id) rfl Tryz.underlying22 (by kernel_rfl) (by kernel_rfl) (by kernel_rfl) (by kernel_rfl) (by first | omega | (have q := hsx (by assumption); omega)) (by first | omega | (have q := hsx (by assumption); omega))) ?_
 refine DK.seg 2 (by kernel_rfl) ?_
 refine DK.val (.ro (aD (((cdN (((s.objs).getD id.toNat o0) 0)).abs).getD (((s.objs).getD id.toNat o0) 14).toNat a0)) 0) (by kernel_rfl) (fun _ => idx_map (sz := 14) (g := AD) (d := a0) (xs := (cdN (((s.objs).getD id.toNat o0) 0)).abs) (ex := false) (k := .i64) (n := (((s.objs).getD id.toNat o0) 14)) rfl Tryz.underlying150 (by kernel_rfl) (by kernel_rfl) (by kernel_rfl) (by kernel_rfl) (by first | omega | (have q := hsx (by assumption); omega)) (by first | omega | (have q := hsx (by assumption); omega))) ?_
 refine DK.seg 3 (by kernel_rfl) (DK.nil ?_)
 refine X.ret ?_
 exact ⟨rfl, giv (r := .tuple [.agg (aC (((cdN (((s.objs).getD id.toNat o0) 0)).abs).getD (((s.objs).getD id.toNat o0) 14).toNat a0)), .bool true]) (giv2 (vs := [.agg (aD (((cdN (((s.objs).getD id.toNat o0) 0)).abs).getD (((s.objs).getD id.toNat o0) 14).toNat a0)), .bool true]) (σ' := [.box (cS s) false, .box (aD (((cdN (((s.objs).getD id.toNat o0) 0)).abs).getD (((s.objs).getD id.toNat o0) 14).toNat a0)) false, .box (cD (cdN (((s.objs).getD id.toNat o0) 0))) false]) (by kernel_rfl) (by kernel_rfl) (by simp only [AV.free, AV.frees, fr_I, fr_E, fr_cO, fr_cL, fr_cS, fr_cC, fr_aC, fr_Am, fr_cD, fr_aD, fr_ADm, fr_EFm, fr_eC, Bool.and_self])) (by exact of_yes (s := s) (id := id) (by first | exact ⟨⟨by omega, by omega⟩, by omega, by assumption⟩ | (simp only [ofP, hasA, abN, cdO] at *; omega)) rfl)⟩
end Go.Abs.Z
namespace Go.Abs.Z
open Go Go.Abs Go.Proofs
theorem sub_op {P : Program} {cfg : Cfg} {fn : Nat} {c : Caller} {lo' : Nat} {fr : List AV} {σ : Sto} {o : Op} {t t' : TypeId} {x y : Operand} {k : IntKind} {a b d : Int} (ho : o = .binOp .sub t x y t') (hx : evA cfg fr x = some (.int k a)) (hy : evA cfg fr y = some (.int k b)) (hw : k.wrap (a - b) = d) :
    opA P cfg c fn lo' fr σ o = some (.int k d, σ) := by
  subst ho
  simp [opA, op2, hx, hy, sameA, hw]
def abtC (c : Cd) : Ab := if 0 < (usL c 0).length then c.abs.getD ((usL c 0).getD 0 0).toNat a0 else a0
def abtP (s : St) (id : Int) : Prop := if (s.objs.getD id.toNat o0) 13 = 2 then ofP s id else 0 < (usL (cdO s id) 0).length
instance (s : St) (id : Int) : Decidable (abtP s id) := by unfold abtP; infer_instance
def abtA (s : St) (id : Int) : Ab := if (s.objs.getD id.toNat o0) 13 = 2 then ofA s id else abtC (cdO s id)
theorem abt_of {s : St} {id : Int} (h : (s.objs.getD id.toNat o0) 13 = 2) : AV.tuple [.agg (aC (ofA s id)), .bool (decide (ofP s id))] = .tuple [.agg (aC (abtA s id)), .bool (decide (abtP s id))] := by
  have e : abtP s id = ofP s id := by unfold abtP; rw [if_pos h]
  rw [abtA, if_pos h, decide_eq_decide.2 (iff_of_eq e)]
theorem abt_yes {s : St} {id : Int} (h : ¬ (s.objs.getD id.toNat o0) 13 = 2) (h2 : 0 < (usL (cdO s id) 0).length) : AV.tuple [.agg (aC ((cdO s id).abs.getD ((usL (cdO s id) 0).getD 0 0).toNat a0)), .bool true] = .tuple [.agg (aC (abtA s id)), .bool (decide (abtP s id))] := by
  have : abtP s id := by unfold abtP; rw [if_neg h]; exact h2
  rw [abtA, if_neg h, abtC, if_pos h2, decide_eq_true this]
theorem abt_no {s : St} {id : Int} (h : ¬ (s.objs.getD id.toNat o0) 13 = 2) (h2 : ¬ 0 < (usL (cdO s id) 0).length) : AV.tuple [.agg (aC a0), .bool false] = .tuple [.agg (aC (abtA s id)), .bool (decide (abtP s id))] := by
  have : ¬ abtP s id := by unfold abtP; rw [if_neg h]; exact h2
  rw [abtA, if_neg h, abtC, if_neg h2, decide_eq_false this]
set_option maxHeartbeats 1000000 in
theorem abt_w : ∀ k (s : St) (id : Int) σ, wf s → okR s → (0 ≤ id ∧ id < s.objs.length) → 1200 ≤ k → readW (callW Tryz.prog (exec Tryz.prog cfg k)) 64 [.agg (cS s), I id] σ = some (.tuple [.agg (aC (abtA s id)), .bool (decide (abtP s id))], σ) := by
 intro k s id σ hyp0 hyp1 hyp2 hk
 obtain ⟨k, rfl⟩ : ∃ k', k = k' + 60 := ⟨k - 60, by omega⟩
 have hw1 := hyp0.1
 have hw2 := hyp0.2
 have hlm : ((s.objs).map E).length = s.objs.length := List.length_map _
 have hok := hyp1
 obtain ⟨h0, h1⟩ := hyp2
 obtain ⟨hc0, hc1⟩ := ok_card hok h0 h1
 have hcl : (((cdN ((s.objs.getD id.toNat o0) 0)).abs).map A).length = (cdN ((s.objs.getD id.toNat o0) 0)).abs.length := List.length_map _
 have hcd : (((cdN ((s.objs.getD id.toNat o0) 0)).abs).map AD).length = (cdN ((s.objs.getD id.toNat o0) 0)).abs.length := List.length_map _
 have hck : (cdN ((s.objs.getD id.toNat o0) 0)).abs.length ≤ 4 := cdN_ok _
 have hul : ((usL (cdN ((s.objs.getD id.toNat o0) 0)) 0).map I).length = (usL (cdN ((s.objs.getD id.toNat o0) 0)) 0).length := List.length_map _
 have hua := fun (h : 0 < (usL (cdN ((s.objs.getD id.toNat o0) 0)) 0).length) => us_at (c := cdN ((s.objs.getD id.toNat o0) 0)) (w := 0) h
 refine reader_of Tryz.func64 rfl (by simp only [AV.frees, AV.free, fr_I, fr_E, fr_cO, fr_cL, fr_cS, Bool.and_self]) ?_
 refine X.seq (X.region (OK.seg 3 (by kernel_rfl) (OK.nil ?_)))
 refine X.seq (X.seq (X.region (OK.seg 3 (by kernel_rfl) ?_)))
 refine OK.val (.ro (cO ((s.objs).getD id.toNat o0)) 0) (by kernel_rfl) (fun _ => idx_map (sz := 18) (g := E) (d := o0) (xs := s.objs) (ex := false) (k := .i64) (n := id) rfl Tryz.underlying22 (by kernel_rfl) (by kernel_rfl) (by kernel_rfl) (by kernel_rfl) (by first | omega | (have q := hua (by omega); omega)) (by first | omega | (have q := hua (by omega); omega))) ?_
 refine OK.seg 2 (by kernel_rfl) ?_
 refine OK.dec ((((s.objs).getD id.toNat o0) 13) = 2) (by kernel_rfl) (by kernel_rfl) (fun h1 => ?_) (fun h1 => ?_)
 ·
  refine OK.nil ?_
  refine X.condT (by kernel_rfl) ?_
  refine X.seq (X.region (OK.seg 2 (by kernel_rfl) ?_))
  refine OK.rd [.agg (cS s), I id] [.agg (cS s), I id] (.tuple [.agg (aC (ofA s id)), .bool (decide (ofP s id))]) rfl (by kernel_rfl) rfl (by kernel_rfl) (by kernel_rfl) (by kernel_rfl) (by kernel_rfl) (by kernel_rfl) (Of_w _ _ _ _ hyp0 hok (by omega)) ?_
  refine OK.seg 4 (by kernel_rfl) (OK.nil ?_)
  refine X.ret ?_
  exact ⟨rfl, giv (r := .tuple [.agg (aC (ofA s id)), .bool (decide (ofP s id))]) (giv2 (vs := [.agg (aC (ofA s id)), .bool (decide (ofP s id))]) (σ' := [.box (cS s) false, .box (aC (ofA s id)) false]) (by kernel_rfl) (by kernel_rfl) (by simp only [AV.free, AV.frees, fr_I, fr_E, fr_cO, fr_cL, fr_cS, fr_cC, fr_aC, fr_Am, fr_cD, fr_aD, fr_ADm, fr_EFm, fr_eC, Bool.and_self])) (by exact abt_of (by assumption))⟩
 refine OK.nil ?_
 refine X.condF (by kernel_rfl) ?_
 refine X.skip (X.seq (X.region (OK.seg 2 (by kernel_rfl) ?_)))
 refine OK.rd [.agg (cS s), I id] [.agg (cS s), I id] (.agg (cC (cdN (s.objs.getD id.toNat o0 0)))) rfl (by kernel_rfl) rfl (by kernel_rfl) (by kernel_rfl) (by kernel_rfl) (by kernel_rfl) (by kernel_rfl) (skind_w _ _ _ _ hyp0 hok ⟨by omega, by omega⟩ (by omega)) ?_
 refine OK.seg 2 (by kernel_rfl) (OK.nil ?_)
 refine X.seq (X.seq (X.region (OK.seg 1 (by kernel_rfl) ?_)))
 have huh2 : ((usL (cdN (s.objs.getD id.toNat o0 0)) 0).map I).length = (usL (cdN (s.objs.getD id.toNat o0 0)) 0).length := List.length_map _
 refine OK.rd [.agg (cC (cdN (s.objs.getD id.toNat o0 0))), I 0] [.agg (cC (cdN (s.objs.getD id.toNat o0 0))), I 0] (.list ((usL (cdN (s.objs.getD id.toNat o0 0)) 0).map I) false) rfl (by kernel_rfl) rfl (by kernel_rfl) (by kernel_rfl) (by kernel_rfl) (by kernel_rfl) (by kernel_rfl) (Uses_w _ (cdN (s.objs.getD id.toNat o0 0)) 0 _ (cdN_ok _) (by omega)) ?_
 refine OK.seg 2 (by kernel_rfl) (OK.nil ?_)
 refine X.block ?_
 refine X.at ([.agg (cS s), I id, .ptr 0 0, undefA, .ptr 1 0, .bool false, .ptr 2 0, undefA, undefA, .ptr 0 0, .list ((s.objs).map E) false, I id, .ro (cO ((s.objs).getD id.toNat o0)) 0, .ro (cO ((s.objs).getD id.toNat o0)) 13, I (((s.objs).getD id.toNat o0) 13), .bool false] ++ List.replicate 5 undefA ++ [.agg (cS s), I id, .agg (cC (cdN (s.objs.getD id.toNat o0 0))), .agg (cC (cdN (s.objs.getD id.toNat o0 0))), .list ((usL (cdN (s.objs.getD id.toNat o0 0)) 0).map I) false, I ((((usL (cdN (s.objs.getD id.toNat o0 0)) 0).map I).length : Nat) : Int), I 0] ++ List.replicate 10 undefA : List AV) [.box (cS s) false, .box [I 0, I 0, I 0, I 0, I 0, I 0, I 0, .bool false, I 0, I 0, I 0, I 0, I 0, .list [] true] false, .box (cC (cdN (s.objs.getD id.toNat o0 0))) false] (by kernel_rfl) (by kernel_rfl) ?_
 refine X.loop1 (by kernel_rfl) ?_
 refine X.seq (X.region ?_)
 refine OK.dec (0 < ((((usL (cdN (s.objs.getD id.toNat o0 0)) 0).map I).length : Nat) : Int)) (by kernel_rfl) (by kernel_rfl) (fun h3 => ?_) (fun h3 => ?_)
 rotate_left
 ·
  refine OK.nil ?_
  refine X.seq (X.condF (by kernel_rfl) ?_)
  refine X.exit ?_
  show X _ _ _ _ _ _ _ _ _
  refine X.seq (X.region (OK.seg 3 (by kernel_rfl) (OK.nil ?_)))
  refine X.ret ?_
  exact ⟨rfl, giv (r := .tuple [.agg [I 0, I 0, I 0, I 0, I 0, I 0, I 0, .bool false, I 0, I 0, I 0, I 0, I 0, .list [] false], .bool false]) (giv2 (vs := [.agg [I 0, I 0, I 0, I 0, I 0, I 0, I 0, .bool false, I 0, I 0, I 0, I 0, I 0, .list [] true], .bool false]) (σ' := [.box (cS s) false, .box [I 0, I 0, I 0, I 0, I 0, I 0, I 0, .bool false, I 0, I 0, I 0, I 0, I 0, .list [] true] false, .box (cC (cdN (s.objs.getD id.toNat o0 0))) false]) (by kernel_rfl) (by kernel_rfl) (by simp only [AV.free, AV.frees, fr_I, fr_E, fr_cO, fr_cL, fr_cS, fr_cC, fr_aC, fr_Am, fr_cD, fr_aD, fr_ADm, fr_EFm, fr_eC, Bool.and_self])) (by exact abt_no (by assumption) (by simp only [cdO]; omega))⟩
 refine OK.nil ?_
 refine X.seq (X.condT (by kernel_rfl) ?_)
 refine X.skip (X.seq (X.block (X.seq (X.region ?_))))
 refine OK.val (.ro [I (((usL (cdN (s.objs.getD id.toNat o0 0)) 0).getD 0 0))] 0) (by kernel_rfl) (fun _ => idx_map (sz := 1) (g := I) (d := 0) (xs := usL (cdN (s.objs.getD id.toNat o0 0)) 0) (ex := false) (k := .i64) (n := 0) rfl Tryz.underlying23 (by kernel_rfl) (by kernel_rfl) (by kernel_rfl) (by kernel_rfl) (by first | omega | (have q := hua (by omega); omega)) (by first | omega | (have q := hua (by omega); omega))) ?_
 refine OK.seg 2 (by kernel_rfl) (OK.nil ?_)
 refine X.seq (X.region (OK.seg 3 (by kernel_rfl) ?_))
 refine OK.val (.ro (aC (((cdN (s.objs.getD id.toNat o0 0)).abs).getD (((usL (cdN (s.objs.getD id.toNat o0 0)) 0).getD 0 0)).toNat a0)) 0) (by kernel_rfl) (fun _ => idx_map (sz := 14) (g := A) (d := a0) (xs := (cdN (s.objs.getD id.toNat o0 0)).abs) (ex := false) (k := .i64) (n := (((usL (cdN (s.objs.getD id.toNat o0 0)) 0).getD 0 0))) rfl Tryz.underlying150 (by kernel_rfl) (by kernel_rfl) (by kernel_rfl) (by kernel_rfl) (by first | omega | (have q := hua (by omega); omega)) (by first | omega | (have q := hua (by omega); omega))) ?_
 refine OK.seg 3 (by kernel_rfl) (OK.nil ?_)
 refine X.ret ?_
 exact ⟨rfl, giv (r := .tuple [.agg (aC (((cdN (s.objs.getD id.toNat o0 0)).abs).getD (((usL (cdN (s.objs.getD id.toNat o0 0)) 0).getD 0 0)).toNat a0)), .bool true]) (giv2 (vs := [.agg (aC (((cdN (s.objs.getD id.toNat o0 0)).abs).getD (((usL (cdN (s.objs.getD id.toNat o0 0)) 0).getD 0 0)).toNat a0)), .bool true]) (σ' := [.box (cS s) false, .box (aC (((cdN (s.objs.getD id.toNat o0 0)).abs).getD (((usL (cdN (s.objs.getD id.toNat o0 0)) 0).getD 0 0)).toNat a0)) false, .box (cC (cdN (s.objs.getD id.toNat o0 0))) false]) (by kernel_rfl) (by kernel_rfl) (by simp only [AV.free, AV.frees, fr_I, fr_E, fr_cO, fr_cL, fr_cS, fr_cC, fr_aC, fr_Am, fr_cD, fr_aD, fr_ADm, fr_EFm, fr_eC, Bool.and_self])) (by exact abt_yes (s := s) (id := id) (by assumption) (by simp only [cdO]; omega))⟩
set_option maxHeartbeats 1000000 in
theorem rabt_w : ∀ k (s : St) (id : Int) σ, wf s → okR s → (0 ≤ id ∧ id < s.objs.length) → 1200 ≤ k → readW (callW Tryz.prog (exec Tryz.prog cfg k)) 67 [.agg (cS s), I id] σ = some (.tuple [.agg (aC (abtA s id)), .bool (decide (abtP s id))], σ) := by
 intro k s id σ hyp0 hyp1 hyp2 hk
 obtain ⟨k, rfl⟩ : ∃ k', k = k' + 60 := ⟨k - 60, by omega⟩
 have hw1 := hyp0.1
 have hw2 := hyp0.2
 have hlm : ((s.objs).map E).length = s.objs.length := List.length_map _
 have hok := hyp1
 obtain ⟨h0, h1⟩ := hyp2
 obtain ⟨hc0, hc1⟩ := ok_card hok h0 h1
 have hcl : (((cdN ((s.objs.getD id.toNat o0) 0)).abs).map A).length = (cdN ((s.objs.getD id.toNat o0) 0)).abs.length := List.length_map _
 have hcd : (((cdN ((s.objs.getD id.toNat o0) 0)).abs).map AD).length = (cdN ((s.objs.getD id.toNat o0) 0)).abs.length := List.length_map _
 have hck : (cdN ((s.objs.getD id.toNat o0) 0)).abs.length ≤ 4 := cdN_ok _
 have hul : ((usL (cdN ((s.objs.getD id.toNat o0) 0)) 0).map I).length = (usL (cdN ((s.objs.getD id.toNat o0) 0)) 0).length := List.length_map _
 have hua := fun (h : 0 < (usL (cdN ((s.objs.getD id.toNat o0) 0)) 0).length) => us_at (c := cdN ((s.objs.getD id.toNat o0) 0)) (w := 0) h
 refine reader_of Tryz.func67 rfl (by simp only [AV.frees, AV.free, fr_I, fr_E, fr_cO, fr_cL, fr_cS, Bool.and_self]) ?_
 refine X.seq (X.region (OK.seg 3 (by kernel_rfl) (OK.nil ?_)))
 refine X.seq (X.seq (X.region (OK.seg 3 (by kernel_rfl) ?_)))
 refine OK.val (.ro (cO ((s.objs).getD id.toNat o0)) 0) (by kernel_rfl) (fun _ => idx_map (sz := 18) (g := E) (d := o0) (xs := s.objs) (ex := false) (k := .i64) (n := id) rfl Tryz.underlying22 (by kernel_rfl) (by kernel_rfl) (by kernel_rfl) (by kernel_rfl) (by first | omega | (have q := hua (by omega); omega)) (by first | omega | (have q := hua (by omega); omega))) ?_
 refine OK.seg 2 (by kernel_rfl) ?_
 refine OK.dec ((((s.objs).getD id.toNat o0) 13) = 2) (by kernel_rfl) (by kernel_rfl) (fun h1 => ?_) (fun h1 => ?_)
 ·
  refine OK.nil ?_
  refine X.condT (by kernel_rfl) ?_
  refine X.seq (X.region (OK.seg 2 (by kernel_rfl) ?_))
  refine OK.rd [.agg (cS s), I id] [.agg (cS s), I id] (.tuple [.agg (aC (ofA s id)), .bool (decide (ofP s id))]) rfl (by kernel_rfl) rfl (by kernel_rfl) (by kernel_rfl) (by kernel_rfl) (by kernel_rfl) (by kernel_rfl) (rOf_w _ _ _ _ hyp0 hok (by omega)) ?_
  refine OK.seg 4 (by kernel_rfl) (OK.nil ?_)
  refine X.ret ?_
  exact ⟨rfl, giv (r := .tuple [.agg (aC (ofA s id)), .bool (decide (ofP s id))]) (giv2 (vs := [.agg (aC (ofA s id)), .bool (decide (ofP s id))]) (σ' := [.box (cS s) false, .box (aC (ofA s id)) false]) (by kernel_rfl) (by kernel_rfl) (by simp only [AV.free, AV.frees, fr_I, fr_E, fr_cO, fr_cL, fr_cS, fr_cC, fr_aC, fr_Am, fr_cD, fr_aD, fr_ADm, fr_EFm, fr_eC, Bool.and_self])) (by exact abt_of (by assumption))⟩
 refine OK.nil ?_
 refine X.condF (by kernel_rfl) ?_
 refine X.skip (X.seq (X.region (OK.seg 3 (by kernel_rfl) ?_)))
 refine OK.val (.ro (cO ((s.objs).getD id.toNat o0)) 0) (by kernel_rfl) (fun _ => idx_map (sz := 18) (g := E) (d := o0) (xs := s.objs) (ex := false) (k := .i64) (n := id) rfl Tryz.underlying22 (by kernel_rfl) (by kernel_rfl) (by kernel_rfl) (by kernel_rfl) (by first | omega | (have q := hua (by omega); omega)) (by first | omega | (have q := hua (by omega); omega))) ?_
 refine OK.seg 2 (by kernel_rfl) ?_
 refine OK.rd [I (((s.objs).getD id.toNat o0) 0)] [I (((s.objs).getD id.toNat o0) 0)] (.tuple [.agg (cD (cdN (((s.objs).getD id.toNat o0) 0))), .bool true]) rfl (by kernel_rfl) rfl (by kernel_rfl) (by kernel_rfl) (by kernel_rfl) (by kernel_rfl) (by kernel_rfl) (rcard (((s.objs).getD id.toNat o0) 0) (by omega) (by omega) _ _ (by omega)) ?_
 refine OK.seg 6 (by kernel_rfl) (OK.nil ?_)
 refine X.seq (X.seq (X.region (OK.seg 1 (by kernel_rfl) ?_)))
 have huh2 : ((usL (cdN (((s.objs).getD id.toNat o0) 0)) 0).map I).length = (usL (cdN (((s.objs).getD id.toNat o0) 0)) 0).length := List.length_map _
 refine OK.rd [.agg (cD (cdN (((s.objs).getD id.toNat o0) 0))), I 0] [.agg (cD (cdN (((s.objs).getD id.toNat o0) 0))), I 0] (.list ((usL (cdN (((s.objs).getD id.toNat o0) 0)) 0).map I) false) rfl (by kernel_rfl) rfl (by kernel_rfl) (by kernel_rfl) (by kernel_rfl) (by kernel_rfl) (by kernel_rfl) (rUses_w _ (cdN (((s.objs).getD id.toNat o0) 0)) 0 _ (cdN_ok _) (by omega)) ?_
 refine OK.seg 1 (by kernel_rfl) (OK.nil ?_)
 refine X.seq (X.region (OK.seg 2 (by kernel_rfl) ?_))
 refine OK.dec (((((usL (cdN (((s.objs).getD id.toNat o0) 0)) 0).map I).length : Nat) : Int) > 0) (by kernel_rfl) (by kernel_rfl) (fun h3 => ?_) (fun h3 => ?_)
 rotate_left
 ·
  refine OK.nil ?_
  refine X.condF (by kernel_rfl) ?_
  refine X.skip (X.seq (X.region (OK.seg 3 (by kernel_rfl) (OK.nil ?_))))
  refine X.ret ?_
  exact ⟨rfl, giv (r := .tuple [.agg [I 0, I 0, I 0, I 0, I 0, I 0, I 0, .bool false, I 0, I 0, I 0, I 0, I 0, .list [] false], .bool false]) (giv2 (vs := [.agg [I 0, I 0, I 0, I 0, I 0, I 0, I 0, .bool false, I 0, I 0, I 0, I 0, I 0, .list [] true], .bool false]) (σ' := [.box (cS s) false, .box [I 0, I 0, I 0, I 0, I 0, I 0, I 0, .bool false, I 0, I 0, I 0, I 0, I 0, .list [] true] false, .box (cD (cdN (((s.objs).getD id.toNat o0) 0))) false]) (by kernel_rfl) (by kernel_rfl) (by simp only [AV.free, AV.frees, fr_I, fr_E, fr_cO, fr_cL, fr_cS, fr_cC, fr_aC, fr_Am, fr_cD, fr_aD, fr_ADm, fr_EFm, fr_eC, Bool.and_self])) (by exact abt_no (by assumption) (by simp only [cdO]; omega))⟩
 refine OK.nil ?_
 refine X.condT (by kernel_rfl) ?_
 refine X.seq (X.draw (by kernel_rfl) (by kernel_rfl) (by kernel_rfl) ?_)
 refine DK.seg 3 (by kernel_rfl) ?_
 refine DK.val (.ro [I (((usL (cdN (((s.objs).getD id.toNat o0) 0)) 0).getD 0 0))] 0) (by kernel_rfl) (fun _ => idx_map (sz := 1) (g := I) (d := 0) (xs := usL (cdN (((s.objs).getD id.toNat o0) 0)) 0) (ex := false) (k := .i64) (n := 0) rfl Tryz.underlying23 (by kernel_rfl) (by kernel_rfl) (by kernel_rfl) (by kernel_rfl) (by first | omega | (have q := hua (by omega); omega)) (by first | omega | (have q := hua (by omega); omega))) ?_
 refine DK.seg 1 (by kernel_rfl) ?_
 refine DK.val (.ro (aD (((cdN (((s.objs).getD id.toNat o0) 0)).abs).getD (((usL (cdN (((s.objs).getD id.toNat o0) 0)) 0).getD 0 0)).toNat a0)) 0) (by kernel_rfl) (fun _ => idx_map (sz := 14) (g := AD) (d := a0) (xs := (cdN (((s.objs).getD id.toNat o0) 0)).abs) (ex := false) (k := .i64) (n := (((usL (cdN (((s.objs).getD id.toNat o0) 0)) 0).getD 0 0))) rfl Tryz.underlying150 (by kernel_rfl) (by kernel_rfl) (by kernel_rfl) (by kernel_rfl) (by first | omega | (have q := hua (by omega); omega)) (by first | omega | (have q := hua (by omega); omega))) ?_
 refine DK.seg 3 (by kernel_rfl) (DK.nil ?_)
 refine X.ret ?_
 exact ⟨rfl, giv (r := .tuple [.agg (aC (((cdN (((s.objs).getD id.toNat o0) 0)).abs).getD (((usL (cdN (((s.objs).getD id.toNat o0) 0)) 0).getD 0 0)).toNat a0)), .bool true]) (giv2 (vs := [.agg (aD (((cdN (((s.objs).getD id.toNat o0) 0)).abs).getD (((usL (cdN (((s.objs).getD id.toNat o0) 0)) 0).getD 0 0)).toNat a0)), .bool true]) (σ' := [.box (cS s) false, .box (aD (((cdN (((s.objs).getD id.toNat o0) 0)).abs).getD (((usL (cdN (((s.objs).getD id.toNat o0) 0)) 0).getD 0 0)).toNat a0)) false, .box (cD (cdN (((s.objs).getD id.toNat o0) 0))) false]) (by kernel_rfl) (by kernel_rfl) (by simp only [AV.free, AV.frees, fr_I, fr_E, fr_cO, fr_cL, fr_cS, fr_cC, fr_aC, fr_Am, fr_cD, fr_aD, fr_ADm, fr_EFm, fr_eC, Bool.and_self])) (by exact abt_yes (s := s) (id := id) (by assumption) (by simp only [cdO]; omega))⟩
theorem tPlayer_1 : ∀ k σ, 60 ≤ k → readW (callW Tryz.prog (exec Tryz.prog cfg k)) 45 [I (-1)] σ = some (.tuple [I 0, .bool true], σ) := by
  intro k σ hk
  obtain ⟨k, rfl⟩ : ∃ k', k = k' + 60 := ⟨k - 60, by omega⟩
  kernel_rfl
theorem tPlayer_2 : ∀ k σ, 60 ≤ k → readW (callW Tryz.prog (exec Tryz.prog cfg k)) 45 [I (-2)] σ = some (.tuple [I 1, .bool true], σ) := by
  intro k σ hk
  obtain ⟨k, rfl⟩ : ∃ k', k = k' + 60 := ⟨k - 60, by omega⟩
  kernel_rfl
theorem tPlayer_o : ∀ k (t : Int) σ, ¬ (t = -1 ∨ t = -2) → 60 ≤ k → readW (callW Tryz.prog (exec Tryz.prog cfg k)) 45 [I t] σ = some (.tuple [I 0, .bool false], σ) := by
 intro k t σ hyp0 hk
 obtain ⟨k, rfl⟩ : ∃ k', k = k' + 60 := ⟨k - 60, by omega⟩
 refine reader_of Tryz.func45 rfl (by simp only [AV.frees, AV.free, fr_I, fr_E, fr_cO, fr_cL, fr_cS, Bool.and_self]) ?_
 refine X.seq (X.region (OK.seg 2 (by kernel_rfl) (OK.nil ?_)))
 refine X.seq (X.seq (X.region (OK.seg 1 (by kernel_rfl) ?_)))
 refine OK.ndec (t = (-1)) (by kernel_rfl) (by kernel_rfl) (fun h1 => ?_) (fun h1 => ?_)
 rotate_left
 · exfalso; omega
 refine OK.seg 2 (by kernel_rfl) ?_
 refine OK.ndec (t = (-2)) (by kernel_rfl) (by kernel_rfl) (fun h2 => ?_) (fun h2 => ?_)
 rotate_left
 · exfalso; omega
 refine OK.seg 1 (by kernel_rfl) (OK.nil ?_)
 refine X.condT (by kernel_rfl) ?_
 refine X.seq (X.region (OK.seg 2 (by kernel_rfl) (OK.nil ?_)))
 refine X.ret ?_
 exact ⟨rfl, giv (r := .tuple [I 0, .bool false]) (by kernel_rfl) (by rfl)⟩
theorem tObj_y : ∀ k (t : Int) σ, (0 < t ∧ t ≤ 9223372036854775807) → 60 ≤ k → readW (callW Tryz.prog (exec Tryz.prog cfg k)) 46 [I t] σ = some (.tuple [I (t - 1), .bool true], σ) := by
 intro k t σ hyp0 hk
 obtain ⟨k, rfl⟩ : ∃ k', k = k' + 60 := ⟨k - 60, by omega⟩
 refine reader_of Tryz.func46 rfl (by simp only [AV.frees, AV.free, fr_I, fr_E, fr_cO, fr_cL, fr_cS, Bool.and_self]) ?_
 refine X.seq (X.region (OK.seg 2 (by kernel_rfl) (OK.nil ?_)))
 refine X.seq (X.seq (X.region (OK.seg 1 (by kernel_rfl) ?_)))
 refine OK.dec (t ≤ 0) (by kernel_rfl) (by kernel_rfl) (fun h1 => ?_) (fun h1 => ?_)
 · exfalso; omega
 refine OK.nil ?_
 refine X.condF (by kernel_rfl) ?_
 refine X.skip (X.seq (X.region (OK.seg 1 (by kernel_rfl) ?_)))
 refine OK.val (I (t - 1)) (by kernel_rfl) (fun _ => sub_op (k := .i64) (a := t) (b := 1) rfl (by kernel_rfl) (by kernel_rfl) (by rw [wrap64] <;> omega)) ?_
 refine OK.seg 2 (by kernel_rfl) (OK.nil ?_)
 refine X.ret ?_
 exact ⟨rfl, giv (r := .tuple [I (t - 1), .bool true]) (by kernel_rfl) (by rfl)⟩
theorem tObj_n : ∀ k (t : Int) σ, ¬ 0 < t → 60 ≤ k → readW (callW Tryz.prog (exec Tryz.prog cfg k)) 46 [I t] σ = some (.tuple [I 0, .bool false], σ) := by
 intro k t σ hyp0 hk
 obtain ⟨k, rfl⟩ : ∃ k', k = k' + 60 := ⟨k - 60, by omega⟩
 refine reader_of Tryz.func46 rfl (by simp only [AV.frees, AV.free, fr_I, fr_E, fr_cO, fr_cL, fr_cS, Bool.and_self]) ?_
 refine X.seq (X.region (OK.seg 2 (by kernel_rfl) (OK.nil ?_)))
 refine X.seq (X.seq (X.region (OK.seg 1 (by kernel_rfl) ?_)))
 refine OK.dec (t ≤ 0) (by kernel_rfl) (by kernel_rfl) (fun h1 => ?_) (fun h1 => ?_)
 rotate_left
 · exfalso; omega
 refine OK.nil ?_
 refine X.condT (by kernel_rfl) ?_
 refine X.seq (X.region (OK.seg 2 (by kernel_rfl) (OK.nil ?_)))
 refine X.ret ?_
 exact ⟨rfl, giv (r := .tuple [I 0, .bool false]) (by kernel_rfl) (by rfl)⟩
def tplR (t : Int) : AV := if t = -1 then .tuple [I 0, .bool true] else if t = -2 then .tuple [I 1, .bool true] else .tuple [I 0, .bool false]
theorem tplR_cases (t : Int) : (t = -1 ∧ tplR t = .tuple [I 0, .bool true]) ∨ (t = -2 ∧ tplR t = .tuple [I 1, .bool true]) ∨ (¬ (t = -1 ∨ t = -2) ∧ tplR t = .tuple [I 0, .bool false]) := by
  unfold tplR
  by_cases h1 : t = -1
  · exact .inl ⟨h1, if_pos h1⟩
  · by_cases h2 : t = -2
    · exact .inr (.inl ⟨h2, by rw [if_neg h1, if_pos h2]⟩)
    · exact .inr (.inr ⟨by omega, by rw [if_neg h1, if_neg h2]⟩)
theorem tplR_w (t : Int) : ∀ k σ, 60 ≤ k → readW (callW Tryz.prog (exec Tryz.prog cfg k)) 45 [I t] σ = some (tplR t, σ) := by
  intro k σ hk
  rcases tplR_cases t with ⟨rfl, e⟩ | ⟨rfl, e⟩ | ⟨h, e⟩ <;> rw [e]
  · exact tPlayer_1 k σ hk
  · exact tPlayer_2 k σ hk
  · exact tPlayer_o k t σ h hk
def tobR (t : Int) : AV := if 0 < t then .tuple [I (t - 1), .bool true] else .tuple [I 0, .bool false]
theorem tobR_cases (t : Int) : (0 < t ∧ tobR t = .tuple [I (t - 1), .bool true]) ∨ (¬ 0 < t ∧ tobR t = .tuple [I 0, .bool false]) := by
  unfold tobR
  by_cases h1 : 0 < t
  · exact .inl ⟨h1, if_pos h1⟩
  · exact .inr ⟨h1, if_neg h1⟩
theorem tobR_w (t : Int) (ht : t ≤ 9223372036854775807) : ∀ k σ, 60 ≤ k → readW (callW Tryz.prog (exec Tryz.prog cfg k)) 46 [I t] σ = some (tobR t, σ) := by
  intro k σ hk
  rcases tobR_cases t with ⟨h, e⟩ | ⟨h, e⟩ <;> rw [e]
  · exact tObj_y k t σ ⟨h, ht⟩ hk
  · exact tObj_n k t σ h hk
def errN (n : Int) : AV := if n = 0 then .nilIface else .iface 86 (I n)
theorem errN_cases (n : Int) : (n = 0 ∧ errN n = .nilIface) ∨ (n ≠ 0 ∧ errN n = .iface 86 (I n)) := by
  unfold errN
  by_cases h : n = 0
  · exact .inl ⟨h, if_pos h⟩
  · exact .inr ⟨h, if_neg h⟩
theorem errN_nil {n : Int} (h : n = 0) : AV.nilIface = errN n := by rw [errN, if_pos h]
theorem errN_err {n m : Int} (h : n = m) (h0 : m ≠ 0) : AV.iface 86 (I m) = errN n := by rw [errN, if_neg (by omega), h]
def spl (s : St) (self id : Int) : Prop := id ≠ self ∧ (s.objs.getD id.toNat o0) 3 = 9 ∧ (s.objs.getD id.toNat o0) 13 ≠ 2
instance (s : St) (self id : Int) : Decidable (spl s self id) := inferInstanceAs (Decidable (_ ∧ _ ∧ _))
def alw (s : St) (kind self t : Int) : Prop := (kind = 0 ∧ t = 0) ∨ ((t = -1 ∨ t = -2) ∧ (kind = 2 ∨ kind = 3)) ∨ (0 < t ∧ t ≤ s.objs.length ∧ ((kind = 1 ∨ kind = 3) ∧ cre s (t - 1) ∨ kind = 4 ∧ spl s self (t - 1) ∨ kind = 5 ∧ (s.objs.getD (t - 1).toNat o0) 3 = 8))
noncomputable instance (s : St) (kind self t : Int) : Decidable (alw s kind self t) := Classical.propDecidable _
def lsP (s : St) (kind self : Int) (j : Nat) : Prop := (kind = 1 ∨ kind = 3) ∧ cre s j ∨ kind = 4 ∧ spl s self j ∨ kind = 5 ∧ (s.objs.getD j o0) 3 = 8
noncomputable instance (s : St) (kind self : Int) : DecidablePred (lsP s kind self) := fun _ => Classical.propDecidable _
def lsI (kind : Int) : List Int := if kind = 2 ∨ kind = 3 then [-2, -1] else if kind = 0 then [0] else []
noncomputable def lsA (s : St) (kind self : Int) : List Int := lsI kind ++ ixs 1 (lsP s kind self) s.objs.length
theorem lsA_iff (s : St) (kind self t : Int) : t ∈ lsA s kind self ↔ alw s kind self t := by
  unfold lsA
  rw [List.mem_append, ixs_mem]
  have h1 : t ∈ lsI kind ↔ (kind = 0 ∧ t = 0) ∨ ((t = -1 ∨ t = -2) ∧ (kind = 2 ∨ kind = 3)) := by
    unfold lsI
    split
    · simp; omega
    · split
      · simp; omega
      · simp; omega
  rw [h1, alw, or_assoc]
  refine or_congr Iff.rfl (or_congr Iff.rfl ?_)
  constructor
  · rintro ⟨j, hj, hp, rfl⟩
    have e : ((j + 1 : Nat) : Int) - 1 = (j : Int) := by omega
    refine ⟨by omega, by omega, ?_⟩
    rw [e, Int.toNat_natCast]; exact hp
  · rintro ⟨h0, h2, hp⟩
    have e : t - 1 = ((t - 1).toNat : Int) := by omega
    refine ⟨(t - 1).toNat, by omega, ?_, by omega⟩
    unfold lsP
    rw [← e]; exact hp
noncomputable def tchN (s : St) (kind self t : Int) : Int := if ¬ rightS s then numS s else if kind < 0 ∨ kind > 5 then 6 else if ¬ alw s kind self t then 11 else 0
theorem tch_w {s : St} {kind self t : Int} (h : ¬ rightS s) : tchN s kind self t = numS s := by rw [tchN, if_pos h]
theorem tch_k {s : St} {kind self t : Int} (h : rightS s) (h2 : kind < 0 ∨ kind > 5) : tchN s kind self t = 6 := by rw [tchN, if_neg (not_not_intro h), if_pos h2]
theorem tch_n {s : St} {kind self t : Int} (h : rightS s) (h2 : ¬ (kind < 0 ∨ kind > 5)) (h3 : ¬ alw s kind self t) : tchN s kind self t = 11 := by rw [tchN, if_neg (not_not_intro h), if_neg h2, if_pos h3]
theorem tch_y {s : St} {kind self t : Int} (h : rightS s) (h2 : ¬ (kind < 0 ∨ kind > 5)) (h3 : alw s kind self t) : tchN s kind self t = 0 := by rw [tchN, if_neg (not_not_intro h), if_neg h2, if_neg (not_not_intro h3)]
theorem alw_kind {s : St} {kind self t : Int} (h : alw s kind self t) : ¬ (kind < 0 ∨ kind > 5) := by unfold alw at h; omega
theorem tch_zero {s : St} {kind self t : Int} (h : rightS s) : tchN s kind self t = 0 ↔ alw s kind self t := by
  constructor
  · intro h0
    by_cases h3 : alw s kind self t
    · exact h3
    · by_cases h2 : kind < 0 ∨ kind > 5
      · rw [tch_k h h2] at h0; omega
      · rw [tch_n h h2 h3] at h0; omega
  · intro h3; exact tch_y h (alw_kind h3) h3
set_option maxHeartbeats 1000000 in
theorem spell_w : ∀ k (s : St) (self id : Int) σ, wf s → (0 ≤ id ∧ id < s.objs.length) → 120 ≤ k → readW (callW Tryz.prog (exec Tryz.prog cfg k)) 192 [.agg (cS s), I self, I id] σ = some (.bool (decide (spl s self id)), σ) := by
 intro k s self id σ hyp0 hyp1 hk
 obtain ⟨k, rfl⟩ : ∃ k', k = k' + 60 := ⟨k - 60, by omega⟩
 have hw1 := hyp0.1
 have hw2 := hyp0.2
 have hlm : ((s.objs).map E).length = s.objs.length := List.length_map _
 refine reader_of Tryz.func192 rfl (by simp only [AV.frees, AV.free, fr_I, fr_E, fr_cO, fr_cL, fr_cS, Bool.and_self]) ?_
 refine X.seq (X.region (OK.seg 2 (by kernel_rfl) (OK.nil ?_)))
 refine X.seq (X.region (OK.seg 3 (by kernel_rfl) ?_))
 refine OK.val (.ro (cO ((s.objs).getD id.toNat o0)) 0) (by kernel_rfl) (fun _ => idx_map (sz := 18) (g := E) (d := o0) (xs := s.objs) (ex := false) (k := .i64) (n := id) rfl Tryz.underlying22 (by kernel_rfl) (by kernel_rfl) (by kernel_rfl) (by kernel_rfl) (by omega) (by omega)) ?_
 refine OK.seg 3 (by kernel_rfl) (OK.nil ?_)
 refine X.seq (X.region (OK.seg 2 (by kernel_rfl) ?_))
 refine OK.ndec (id = self) (by kernel_rfl) (by kernel_rfl) (fun h1 => ?_) (fun h1 => ?_)
 rotate_left
 ·
  refine OK.seg 11 (by kernel_rfl) (OK.nil ?_)
  refine X.ret ?_
  exact ⟨rfl, giv (r := .bool false) (by kernel_rfl) (bool_f (p := spl s self id) (by intro hh; simp only [spl] at hh; omega))⟩
 refine OK.seg 3 (by kernel_rfl) ?_
 refine OK.dec ((((s.objs).getD id.toNat o0) 3) = 9) (by kernel_rfl) (by kernel_rfl) (fun h2 => ?_) (fun h2 => ?_)
 rotate_left
 ·
  refine OK.seg 7 (by kernel_rfl) (OK.nil ?_)
  refine X.ret ?_
  exact ⟨rfl, giv (r := .bool false) (by kernel_rfl) (bool_f (p := spl s self id) (by intro hh; simp only [spl] at hh; omega))⟩
 refine OK.seg 4 (by kernel_rfl) ?_
 refine OK.ndec ((((s.objs).getD id.toNat o0) 13) = 2) (by kernel_rfl) (by kernel_rfl) (fun h3 => ?_) (fun h3 => ?_)
 ·
  refine OK.seg 2 (by kernel_rfl) (OK.nil ?_)
  refine X.ret ?_
  exact ⟨rfl, giv (r := .bool true) (by kernel_rfl) (bool_t (p := spl s self id) (by exact ⟨by omega, by omega, by omega⟩))⟩
 refine OK.seg 2 (by kernel_rfl) (OK.nil ?_)
 refine X.ret ?_
 exact ⟨rfl, giv (r := .bool false) (by kernel_rfl) (bool_f (p := spl s self id) (by intro hh; simp only [spl] at hh; omega))⟩
set_option maxHeartbeats 4000000 in
theorem allows_w : ∀ k (s : St) (kind self t : Int) σ, wf s → rightS s → t ≤ 9223372036854775807 → 600000 ≤ k → readW (callW Tryz.prog (exec Tryz.prog cfg k)) 116 [.agg (cS s), I kind, I self, I t] σ = some (.bool (decide (alw s kind self t)), σ) := by
 intro k s kind self t σ hyp0 hyp1 hyp2 hk
 obtain ⟨k, rfl⟩ : ∃ k', k = k' + 60 := ⟨k - 60, by omega⟩
 have hw1 := hyp0.1
 have hw2 := hyp0.2
 have hlm : ((s.objs).map E).length = s.objs.length := List.length_map _
 have hRS := hyp1
 have hok := (right_of hyp1).2.1
 have hln := (right_of hyp1).1
 refine reader_of Tryz.func116 rfl (by simp only [AV.frees, AV.free, fr_I, fr_E, fr_cO, fr_cL, fr_cS, Bool.and_self]) ?_
 refine X.seq (X.region (OK.seg 2 (by kernel_rfl) (OK.nil ?_)))
 refine X.seq (X.seq (X.region (OK.seg 1 (by kernel_rfl) ?_)))
 refine OK.dec (kind = 0) (by kernel_rfl) (by kernel_rfl) (fun h1 => ?_) (fun h1 => ?_)
 ·
  refine OK.nil ?_
  refine X.condT (by kernel_rfl) ?_
  refine X.seq (X.region (OK.seg 1 (by kernel_rfl) ?_))
  refine OK.dec (t = 0) (by kernel_rfl) (by kernel_rfl) (fun h2 => ?_) (fun h2 => ?_)
  rotate_left
  ·
   refine OK.seg 1 (by kernel_rfl) (OK.nil ?_)
   refine X.ret ?_
   exact ⟨rfl, giv (r := .bool false) (by kernel_rfl) (bool_f (p := alw s kind self t) (by rintro (⟨a1, a2⟩ | ⟨a1, a2⟩ | ⟨a1, a2, ⟨a3, a4⟩ | ⟨a3, a4⟩ | ⟨a3, a4⟩⟩) <;> first | omega | exact absurd a4 (by assumption) | exact (by assumption : ¬ (rightS s ∧ cre s (t - 1))) ⟨by assumption, a4⟩))⟩
  refine OK.seg 1 (by kernel_rfl) (OK.nil ?_)
  refine X.ret ?_
  exact ⟨rfl, giv (r := .bool true) (by kernel_rfl) (bool_t (p := alw s kind self t) (by first | exact .inl ⟨by omega, by omega⟩ | exact .inr (.inl ⟨by omega, by omega⟩) | exact .inr (.inr ⟨by omega, by omega, .inl ⟨by omega, (by assumption : rightS s ∧ cre s (t - 1)).2⟩⟩) | exact .inr (.inr ⟨by omega, by omega, .inr (.inl ⟨by omega, by assumption⟩)⟩) | exact .inr (.inr ⟨by omega, by omega, .inr (.inr ⟨by omega, by assumption⟩)⟩)))⟩
 refine OK.nil ?_
 refine X.condF (by kernel_rfl) ?_
 refine X.skip (X.seq (X.seq (X.region (OK.seg 1 (by kernel_rfl) ?_))))
 refine OK.rd [I t] [I t] (tplR t) rfl (by kernel_rfl) rfl (by kernel_rfl) (by kernel_rfl) (by kernel_rfl) (by kernel_rfl) (by kernel_rfl) (tplR_w t _ _ (by omega)) ?_
 rcases tplR_cases t with ⟨hqh3, eh3⟩ | ⟨hqh3, eh3⟩ | ⟨hqh3, eh3⟩ <;> rw [eh3]
 ·
  refine OK.seg 5 (by kernel_rfl) (OK.nil ?_)
  refine X.seq (X.region (OK.seg 1 (by kernel_rfl) (OK.nil ?_)))
  refine X.condT (by kernel_rfl) ?_
  refine X.seq (X.region (OK.seg 1 (by kernel_rfl) ?_))
  refine OK.dec (kind = 2) (by kernel_rfl) (by kernel_rfl) (fun h5 => ?_) (fun h5 => ?_)
  ·
   refine OK.seg 5 (by kernel_rfl) (OK.nil ?_)
   refine X.ret ?_
   exact ⟨rfl, giv (r := .bool true) (by kernel_rfl) (bool_t (p := alw s kind self t) (by first | exact .inl ⟨by omega, by omega⟩ | exact .inr (.inl ⟨by omega, by omega⟩) | exact .inr (.inr ⟨by omega, by omega, .inl ⟨by omega, (by assumption : rightS s ∧ cre s (t - 1)).2⟩⟩) | exact .inr (.inr ⟨by omega, by omega, .inr (.inl ⟨by omega, by assumption⟩)⟩) | exact .inr (.inr ⟨by omega, by omega, .inr (.inr ⟨by omega, by assumption⟩)⟩)))⟩
  refine OK.seg 2 (by kernel_rfl) ?_
  refine OK.dec (kind = 3) (by kernel_rfl) (by kernel_rfl) (fun h6 => ?_) (fun h6 => ?_)
  rotate_left
  ·
   refine OK.seg 2 (by kernel_rfl) (OK.nil ?_)
   refine X.ret ?_
   exact ⟨rfl, giv (r := .bool false) (by kernel_rfl) (bool_f (p := alw s kind self t) (by rintro (⟨a1, a2⟩ | ⟨a1, a2⟩ | ⟨a1, a2, ⟨a3, a4⟩ | ⟨a3, a4⟩ | ⟨a3, a4⟩⟩) <;> first | omega | exact absurd a4 (by assumption) | exact (by assumption : ¬ (rightS s ∧ cre s (t - 1))) ⟨by assumption, a4⟩))⟩
  refine OK.seg 2 (by kernel_rfl) (OK.nil ?_)
  refine X.ret ?_
  exact ⟨rfl, giv (r := .bool true) (by kernel_rfl) (bool_t (p := alw s kind self t) (by first | exact .inl ⟨by omega, by omega⟩ | exact .inr (.inl ⟨by omega, by omega⟩) | exact .inr (.inr ⟨by omega, by omega, .inl ⟨by omega, (by assumption : rightS s ∧ cre s (t - 1)).2⟩⟩) | exact .inr (.inr ⟨by omega, by omega, .inr (.inl ⟨by omega, by assumption⟩)⟩) | exact .inr (.inr ⟨by omega, by omega, .inr (.inr ⟨by omega, by assumption⟩)⟩)))⟩
 ·
  refine OK.seg 5 (by kernel_rfl) (OK.nil ?_)
  refine X.seq (X.region (OK.seg 1 (by kernel_rfl) (OK.nil ?_)))
  refine X.condT (by kernel_rfl) ?_
  refine X.seq (X.region (OK.seg 1 (by kernel_rfl) ?_))
  refine OK.dec (kind = 2) (by kernel_rfl) (by kernel_rfl) (fun h7 => ?_) (fun h7 => ?_)
  ·
   refine OK.seg 5 (by kernel_rfl) (OK.nil ?_)
   refine X.ret ?_
   exact ⟨rfl, giv (r := .bool true) (by kernel_rfl) (bool_t (p := alw s kind self t) (by first | exact .inl ⟨by omega, by omega⟩ | exact .inr (.inl ⟨by omega, by omega⟩) | exact .inr (.inr ⟨by omega, by omega, .inl ⟨by omega, (by assumption : rightS s ∧ cre s (t - 1)).2⟩⟩) | exact .inr (.inr ⟨by omega, by omega, .inr (.inl ⟨by omega, by assumption⟩)⟩) | exact .inr (.inr ⟨by omega, by omega, .inr (.inr ⟨by omega, by assumption⟩)⟩)))⟩
  refine OK.seg 2 (by kernel_rfl) ?_
  refine OK.dec (kind = 3) (by kernel_rfl) (by kernel_rfl) (fun h8 => ?_) (fun h8 => ?_)
  rotate_left
  ·
   refine OK.seg 2 (by kernel_rfl) (OK.nil ?_)
   refine X.ret ?_
   exact ⟨rfl, giv (r := .bool false) (by kernel_rfl) (bool_f (p := alw s kind self t) (by rintro (⟨a1, a2⟩ | ⟨a1, a2⟩ | ⟨a1, a2, ⟨a3, a4⟩ | ⟨a3, a4⟩ | ⟨a3, a4⟩⟩) <;> first | omega | exact absurd a4 (by assumption) | exact (by assumption : ¬ (rightS s ∧ cre s (t - 1))) ⟨by assumption, a4⟩))⟩
  refine OK.seg 2 (by kernel_rfl) (OK.nil ?_)
  refine X.ret ?_
  exact ⟨rfl, giv (r := .bool true) (by kernel_rfl) (bool_t (p := alw s kind self t) (by first | exact .inl ⟨by omega, by omega⟩ | exact .inr (.inl ⟨by omega, by omega⟩) | exact .inr (.inr ⟨by omega, by omega, .inl ⟨by omega, (by assumption : rightS s ∧ cre s (t - 1)).2⟩⟩) | exact .inr (.inr ⟨by omega, by omega, .inr (.inl ⟨by omega, by assumption⟩)⟩) | exact .inr (.inr ⟨by omega, by omega, .inr (.inr ⟨by omega, by assumption⟩)⟩)))⟩
 ·
  refine OK.seg 5 (by kernel_rfl) (OK.nil ?_)
  refine X.seq (X.region (OK.seg 1 (by kernel_rfl) (OK.nil ?_)))
  refine X.condF (by kernel_rfl) ?_
  refine X.skip (X.seq (X.region (OK.seg 1 (by kernel_rfl) ?_)))
  refine OK.rd [I t] [I t] (tobR t) rfl (by kernel_rfl) rfl (by kernel_rfl) (by kernel_rfl) (by kernel_rfl) (by kernel_rfl) (by kernel_rfl) (tobR_w t (by omega) _ _ (by omega)) ?_
  rcases tobR_cases t with ⟨hqh9, eh9⟩ | ⟨hqh9, eh9⟩ <;> rw [eh9]
  rotate_left
  ·
   refine OK.seg 5 (by kernel_rfl) (OK.nil ?_)
   refine X.seq (X.seq (X.region (OK.seg 9 (by kernel_rfl) (OK.nil ?_))))
   refine X.condT (by kernel_rfl) ?_
   refine X.seq (X.region (OK.seg 1 (by kernel_rfl) (OK.nil ?_)))
   refine X.ret ?_
   exact ⟨rfl, giv (r := .bool false) (by kernel_rfl) (bool_f (p := alw s kind self t) (by rintro (⟨a1, a2⟩ | ⟨a1, a2⟩ | ⟨a1, a2, ⟨a3, a4⟩ | ⟨a3, a4⟩ | ⟨a3, a4⟩⟩) <;> first | omega | exact absurd a4 (by assumption) | exact (by assumption : ¬ (rightS s ∧ cre s (t - 1))) ⟨by assumption, a4⟩))⟩
  refine OK.seg 5 (by kernel_rfl) (OK.nil ?_)
  refine X.seq (X.seq (X.region (OK.seg 7 (by kernel_rfl) ?_)))
  refine OK.dec ((t - 1) ≥ ((((s.objs).map E).length : Nat) : Int)) (by kernel_rfl) (by kernel_rfl) (fun h11 => ?_) (fun h11 => ?_)
  ·
   refine OK.seg 1 (by kernel_rfl) (OK.nil ?_)
   refine X.condT (by kernel_rfl) ?_
   refine X.seq (X.region (OK.seg 1 (by kernel_rfl) (OK.nil ?_)))
   refine X.ret ?_
   exact ⟨rfl, giv (r := .bool false) (by kernel_rfl) (bool_f (p := alw s kind self t) (by rintro (⟨a1, a2⟩ | ⟨a1, a2⟩ | ⟨a1, a2, ⟨a3, a4⟩ | ⟨a3, a4⟩ | ⟨a3, a4⟩⟩) <;> first | omega | exact absurd a4 (by assumption) | exact (by assumption : ¬ (rightS s ∧ cre s (t - 1))) ⟨by assumption, a4⟩))⟩
  refine OK.seg 1 (by kernel_rfl) (OK.nil ?_)
  refine X.condF (by kernel_rfl) ?_
  refine X.skip (X.seq (X.seq (X.region (OK.seg 1 (by kernel_rfl) (OK.nil ?_)))))
  refine X.block (X.seq (X.seq (X.region ?_)))
  refine OK.dec (kind = 1) (by kernel_rfl) (by kernel_rfl) (fun h12 => ?_) (fun h12 => ?_)
  ·
   refine OK.seg 1 (by kernel_rfl) (OK.nil ?_)
   refine X.condT (by kernel_rfl) ?_
   refine X.skip (X.condT (by kernel_rfl) ?_)
   refine X.seq (X.region (OK.seg 2 (by kernel_rfl) ?_))
   refine OK.rdP [.agg (cS s), I (t - 1)] [.agg (cS s), I (t - 1)] (rightS s ∧ cre s (t - 1)) rfl (by kernel_rfl) rfl (by kernel_rfl) (by kernel_rfl) (by kernel_rfl) (by kernel_rfl) (by kernel_rfl) (Is_w _ _ _ _ hyp0 (by omega)) (fun h13 => ?_) (fun h13 => ?_)
   rotate_left
   ·
    refine OK.seg 1 (by kernel_rfl) (OK.nil ?_)
    refine X.ret ?_
    exact ⟨rfl, giv (r := .bool false) (by kernel_rfl) (bool_f (p := alw s kind self t) (by rintro (⟨a1, a2⟩ | ⟨a1, a2⟩ | ⟨a1, a2, ⟨a3, a4⟩ | ⟨a3, a4⟩ | ⟨a3, a4⟩⟩) <;> first | omega | exact absurd a4 (by assumption) | exact (by assumption : ¬ (rightS s ∧ cre s (t - 1))) ⟨by assumption, a4⟩))⟩
   refine OK.seg 1 (by kernel_rfl) (OK.nil ?_)
   refine X.ret ?_
   exact ⟨rfl, giv (r := .bool true) (by kernel_rfl) (bool_t (p := alw s kind self t) (by first | exact .inl ⟨by omega, by omega⟩ | exact .inr (.inl ⟨by omega, by omega⟩) | exact .inr (.inr ⟨by omega, by omega, .inl ⟨by omega, (by assumption : rightS s ∧ cre s (t - 1)).2⟩⟩) | exact .inr (.inr ⟨by omega, by omega, .inr (.inl ⟨by omega, by assumption⟩)⟩) | exact .inr (.inr ⟨by omega, by omega, .inr (.inr ⟨by omega, by assumption⟩)⟩)))⟩
  refine OK.seg 1 (by kernel_rfl) (OK.nil ?_)
  refine X.condF (by kernel_rfl) ?_
  refine X.region ?_
  refine OK.dec (kind = 3) (by kernel_rfl) (by kernel_rfl) (fun h14 => ?_) (fun h14 => ?_)
  ·
   refine OK.seg 1 (by kernel_rfl) (OK.nil ?_)
   refine X.condT (by kernel_rfl) ?_
   refine X.seq (X.region (OK.seg 2 (by kernel_rfl) ?_))
   refine OK.rdP [.agg (cS s), I (t - 1)] [.agg (cS s), I (t - 1)] (rightS s ∧ cre s (t - 1)) rfl (by kernel_rfl) rfl (by kernel_rfl) (by kernel_rfl) (by kernel_rfl) (by kernel_rfl) (by kernel_rfl) (Is_w _ _ _ _ hyp0 (by omega)) (fun h15 => ?_) (fun h15 => ?_)
   rotate_left
   ·
    refine OK.seg 1 (by kernel_rfl) (OK.nil ?_)
    refine X.ret ?_
    exact ⟨rfl, giv (r := .bool false) (by kernel_rfl) (bool_f (p := alw s kind self t) (by rintro (⟨a1, a2⟩ | ⟨a1, a2⟩ | ⟨a1, a2, ⟨a3, a4⟩ | ⟨a3, a4⟩ | ⟨a3, a4⟩⟩) <;> first | omega | exact absurd a4 (by assumption) | exact (by assumption : ¬ (rightS s ∧ cre s (t - 1))) ⟨by assumption, a4⟩))⟩
   refine OK.seg 1 (by kernel_rfl) (OK.nil ?_)
   refine X.ret ?_
   exact ⟨rfl, giv (r := .bool true) (by kernel_rfl) (bool_t (p := alw s kind self t) (by first | exact .inl ⟨by omega, by omega⟩ | exact .inr (.inl ⟨by omega, by omega⟩) | exact .inr (.inr ⟨by omega, by omega, .inl ⟨by omega, (by assumption : rightS s ∧ cre s (t - 1)).2⟩⟩) | exact .inr (.inr ⟨by omega, by omega, .inr (.inl ⟨by omega, by assumption⟩)⟩) | exact .inr (.inr ⟨by omega, by omega, .inr (.inr ⟨by omega, by assumption⟩)⟩)))⟩
  refine OK.seg 1 (by kernel_rfl) (OK.nil ?_)
  refine X.condF (by kernel_rfl) ?_
  refine X.seq (X.region ?_)
  refine OK.dec (kind = 4) (by kernel_rfl) (by kernel_rfl) (fun h16 => ?_) (fun h16 => ?_)
  ·
   refine OK.seg 1 (by kernel_rfl) (OK.nil ?_)
   refine X.condT (by kernel_rfl) ?_
   refine X.seq (X.region (OK.seg 3 (by kernel_rfl) ?_))
   refine OK.rdP [.agg (cS s), I self, I (t - 1)] [.agg (cS s), I self, I (t - 1)] (spl s self (t - 1)) rfl (by kernel_rfl) rfl (by kernel_rfl) (by kernel_rfl) (by kernel_rfl) (by kernel_rfl) (by kernel_rfl) (spell_w _ _ _ _ _ hyp0 (by omega) (by omega)) (fun h17 => ?_) (fun h17 => ?_)
   rotate_left
   ·
    refine OK.seg 1 (by kernel_rfl) (OK.nil ?_)
    refine X.ret ?_
    exact ⟨rfl, giv (r := .bool false) (by kernel_rfl) (bool_f (p := alw s kind self t) (by rintro (⟨a1, a2⟩ | ⟨a1, a2⟩ | ⟨a1, a2, ⟨a3, a4⟩ | ⟨a3, a4⟩ | ⟨a3, a4⟩⟩) <;> first | omega | exact absurd a4 (by assumption) | exact (by assumption : ¬ (rightS s ∧ cre s (t - 1))) ⟨by assumption, a4⟩))⟩
   refine OK.seg 1 (by kernel_rfl) (OK.nil ?_)
   refine X.ret ?_
   exact ⟨rfl, giv (r := .bool true) (by kernel_rfl) (bool_t (p := alw s kind self t) (by first | exact .inl ⟨by omega, by omega⟩ | exact .inr (.inl ⟨by omega, by omega⟩) | exact .inr (.inr ⟨by omega, by omega, .inl ⟨by omega, (by assumption : rightS s ∧ cre s (t - 1)).2⟩⟩) | exact .inr (.inr ⟨by omega, by omega, .inr (.inl ⟨by omega, by assumption⟩)⟩) | exact .inr (.inr ⟨by omega, by omega, .inr (.inr ⟨by omega, by assumption⟩)⟩)))⟩
  refine OK.seg 1 (by kernel_rfl) (OK.nil ?_)
  refine X.condF (by kernel_rfl) ?_
  refine X.seq (X.region ?_)
  refine OK.dec (kind = 5) (by kernel_rfl) (by kernel_rfl) (fun h18 => ?_) (fun h18 => ?_)
  rotate_left
  ·
   refine OK.seg 1 (by kernel_rfl) (OK.nil ?_)
   refine X.condF (by kernel_rfl) ?_
   refine X.skip (X.seq (X.region (OK.seg 1 (by kernel_rfl) (OK.nil ?_))))
   refine X.ret ?_
   exact ⟨rfl, giv (r := .bool false) (by kernel_rfl) (bool_f (p := alw s kind self t) (by rintro (⟨a1, a2⟩ | ⟨a1, a2⟩ | ⟨a1, a2, ⟨a3, a4⟩ | ⟨a3, a4⟩ | ⟨a3, a4⟩⟩) <;> first | omega | exact absurd a4 (by assumption) | exact (by assumption : ¬ (rightS s ∧ cre s (t - 1))) ⟨by assumption, a4⟩))⟩
  refine OK.seg 1 (by kernel_rfl) (OK.nil ?_)
  refine X.condT (by kernel_rfl) ?_
  refine X.seq (X.region (OK.seg 3 (by kernel_rfl) ?_))
  refine OK.val (.ro (cO ((s.objs).getD (t - 1).toNat o0)) 0) (by kernel_rfl) (fun _ => idx_map (sz := 18) (g := E) (d := o0) (xs := s.objs) (ex := false) (k := .i64) (n := (t - 1)) rfl Tryz.underlying22 (by kernel_rfl) (by kernel_rfl) (by kernel_rfl) (by kernel_rfl) (by omega) (by omega)) ?_
  refine OK.seg 2 (by kernel_rfl) ?_
  refine OK.dec ((((s.objs).getD (t - 1).toNat o0) 3) = 8) (by kernel_rfl) (by kernel_rfl) (fun h19 => ?_) (fun h19 => ?_)
  rotate_left
  ·
   refine OK.seg 1 (by kernel_rfl) (OK.nil ?_)
   refine X.ret ?_
   exact ⟨rfl, giv (r := .bool false) (by kernel_rfl) (bool_f (p := alw s kind self t) (by rintro (⟨a1, a2⟩ | ⟨a1, a2⟩ | ⟨a1, a2, ⟨a3, a4⟩ | ⟨a3, a4⟩ | ⟨a3, a4⟩⟩) <;> first | omega | exact absurd a4 (by assumption) | exact (by assumption : ¬ (rightS s ∧ cre s (t - 1))) ⟨by assumption, a4⟩))⟩
  refine OK.seg 1 (by kernel_rfl) (OK.nil ?_)
  refine X.ret ?_
  exact ⟨rfl, giv (r := .bool true) (by kernel_rfl) (bool_t (p := alw s kind self t) (by first | exact .inl ⟨by omega, by omega⟩ | exact .inr (.inl ⟨by omega, by omega⟩) | exact .inr (.inr ⟨by omega, by omega, .inl ⟨by omega, (by assumption : rightS s ∧ cre s (t - 1)).2⟩⟩) | exact .inr (.inr ⟨by omega, by omega, .inr (.inl ⟨by omega, by assumption⟩)⟩) | exact .inr (.inr ⟨by omega, by omega, .inr (.inr ⟨by omega, by assumption⟩)⟩)))⟩
set_option maxHeartbeats 1000000 in
theorem tCheck_w : ∀ k (s : St) (kind self t : Int) σ, wf s → t ≤ 9223372036854775807 → 1100000 ≤ k → readW (callW Tryz.prog (exec Tryz.prog cfg k)) 65 [.agg (cS s), I kind, I self, I t] σ = some (errN (tchN s kind self t), σ) := by
 intro k s kind self t σ hyp0 hyp1 hk
 obtain ⟨k, rfl⟩ : ∃ k', k = k' + 60 := ⟨k - 60, by omega⟩
 have hw1 := hyp0.1
 have hw2 := hyp0.2
 have hlm : ((s.objs).map E).length = s.objs.length := List.length_map _
 refine reader_of Tryz.func65 rfl (by simp only [AV.frees, AV.free, fr_I, fr_E, fr_cO, fr_cL, fr_cS, Bool.and_self]) ?_
 refine X.seq (X.region (OK.seg 2 (by kernel_rfl) (OK.nil ?_)))
 refine X.seq (X.seq (X.region (OK.seg 1 (by kernel_rfl) ?_)))
 refine OK.rd [.agg (cS s)] [.agg (cS s)] (errS s) rfl (by kernel_rfl) rfl (by kernel_rfl) (by kernel_rfl) (by kernel_rfl) (by kernel_rfl) (by kernel_rfl) (Check_w _ _ _ hyp0 (by omega)) ?_
 rcases errS_cases s with ⟨hRh1, heh1⟩ | ⟨hRh1, vh1, heh1⟩ <;> rw [heh1]
 rotate_left
 ·
  refine OK.seg 1 (by kernel_rfl) (OK.nil ?_)
  refine X.seq (X.region (OK.seg 2 (by kernel_rfl) (OK.nil ?_)))
  refine X.condT (by kernel_rfl) ?_
  refine X.seq (X.region (OK.seg 2 (by kernel_rfl) (OK.nil ?_)))
  refine X.ret ?_
  exact ⟨rfl, giv (r := .iface 86 (I vh1)) (by kernel_rfl) (by first | (exfalso; exact absurd (by assumption : rightS s) (by assumption)) | (rw [errN, tch_w (by assumption)]; exact Eq.symm (by assumption)))⟩
 refine OK.seg 1 (by kernel_rfl) (OK.nil ?_)
 refine X.seq (X.region (OK.seg 2 (by kernel_rfl) (OK.nil ?_)))
 refine X.condF (by kernel_rfl) ?_
 refine X.skip (X.seq (X.block (X.seq (X.region (OK.seg 1 (by kernel_rfl) ?_)))))
 refine OK.dec (kind < 0) (by kernel_rfl) (by kernel_rfl) (fun h3 => ?_) (fun h3 => ?_)
 ·
  refine OK.seg 5 (by kernel_rfl) (OK.nil ?_)
  refine X.condT (by kernel_rfl) ?_
  refine X.seq (X.region (OK.seg 2 (by kernel_rfl) (OK.nil ?_)))
  refine X.ret ?_
  exact ⟨rfl, giv (r := .iface 86 (I 6)) (by kernel_rfl) (by exact errN_err (tch_k (by assumption) (by omega)) (by decide))⟩
 refine OK.seg 2 (by kernel_rfl) ?_
 refine OK.dec (kind ≥ 6) (by kernel_rfl) (by kernel_rfl) (fun h4 => ?_) (fun h4 => ?_)
 ·
  refine OK.seg 2 (by kernel_rfl) (OK.nil ?_)
  refine X.condT (by kernel_rfl) ?_
  refine X.seq (X.region (OK.seg 2 (by kernel_rfl) (OK.nil ?_)))
  refine X.ret ?_
  exact ⟨rfl, giv (r := .iface 86 (I 6)) (by kernel_rfl) (by exact errN_err (tch_k (by assumption) (by omega)) (by decide))⟩
 refine OK.seg 2 (by kernel_rfl) (OK.nil ?_)
 refine X.condF (by kernel_rfl) ?_
 refine X.seq (X.region (OK.seg 4 (by kernel_rfl) ?_))
 refine OK.rdP [.agg (cS s), I kind, I self, I t] [.agg (cS s), I kind, I self, I t] (alw s kind self t) rfl (by kernel_rfl) rfl (by kernel_rfl) (by kernel_rfl) (by kernel_rfl) (by kernel_rfl) (by kernel_rfl) (allows_w _ _ _ _ _ _ hyp0 (by assumption) (by omega) (by omega)) (fun h5 => ?_) (fun h5 => ?_)
 ·
  refine OK.seg 2 (by kernel_rfl) (OK.nil ?_)
  refine X.condF (by kernel_rfl) ?_
  refine X.skip (X.seq (X.region (OK.seg 1 (by kernel_rfl) (OK.nil ?_))))
  refine X.ret ?_
  exact ⟨rfl, giv (r := .nilIface) (by kernel_rfl) (by exact errN_nil (tch_y (by assumption) (by omega) (by assumption)))⟩
 refine OK.seg 2 (by kernel_rfl) (OK.nil ?_)
 refine X.condT (by kernel_rfl) ?_
 refine X.seq (X.region (OK.seg 2 (by kernel_rfl) (OK.nil ?_)))
 refine X.ret ?_
 exact ⟨rfl, giv (r := .iface 86 (I 11)) (by kernel_rfl) (by exact errN_err (tch_n (by assumption) (by omega) (by assumption)) (by decide))⟩
end Go.Abs.Z
namespace Go.Abs.Z
open Go Go.Abs Go.Proofs
theorem ls_end {s : St} {kind self : Int} {l ys : List Int} {i : Nat} (h : l ++ ixs 1 (lsP s kind self) i = ys) (hi : i = s.objs.length) (hl : lsI kind = l) : AV.list (ys.map I) false = AV.list ((lsA s kind self).map I) false := by
  subst hi h hl; rfl
theorem lsI_o {kind : Int} (h : kind < 0 ∨ kind > 5) : lsI kind = [] := by
  unfold lsI; rw [if_neg (by omega), if_neg (by omega)]
set_option maxHeartbeats 4000000 in
theorem rList_0 : ∀ k (s : St) (self : Int) σ, wf s → rightS s → 200000 ≤ k → readW (callW Tryz.prog (exec Tryz.prog cfg k)) 120 [.agg (cS s), I 0, I self] σ = some (.list ((lsA s 0 self).map I) false, σ) := by
 intro k s self σ hyp0 hyp1 hk
 obtain ⟨k, rfl⟩ : ∃ k', k = k' + 60 := ⟨k - 60, by omega⟩
 have hw1 := hyp0.1
 have hw2 := hyp0.2
 have hlm : ((s.objs).map E).length = s.objs.length := List.length_map _
 have hRS := hyp1
 have hok := (right_of hyp1).2.1
 have hln := (right_of hyp1).1
 refine reader_of Tryz.func120 rfl (by simp only [AV.frees, AV.free, fr_I, fr_E, fr_cO, fr_cL, fr_cS, Bool.and_self]) ?_
 refine X.seq (X.region (OK.seg 2 (by kernel_rfl) (OK.nil ?_)))
 refine X.seq (X.region (OK.seg 2 (by kernel_rfl) (OK.nil ?_)))
 refine X.seq (X.seq (X.region (OK.seg 6 (by kernel_rfl) (OK.nil ?_))))
 refine X.condF (by kernel_rfl) ?_
 refine X.skip (X.seq (X.seq (X.region (OK.seg 2 (by kernel_rfl) (OK.nil ?_)))))
 refine X.condT (by kernel_rfl) ?_
 refine X.region (OK.seg 4 (by kernel_rfl) (OK.nil ?_))
 refine X.seq (X.seq (X.region (OK.seg 4 (by kernel_rfl) (OK.nil ?_))))
 refine X.block ?_
 refine X.rounds3 (K := 900) [8, 9, 10, 30, 31, 32, 33, 34, 35, 36, 37, 38, 39, 40, 41, 42, 43, 44, 45, 46, 47, 48, 49, 50, 51, 52, 53, 54, 55, 56, 57, 58, 59, 60, 61, 62, 63, 64, 65, 66, 67] (by kernel_rfl) rfl (fun m fr σ => ∃ i : Nat, m = s.objs.length - i ∧ i ≤ s.objs.length ∧ (∃ (ys : List Int) (yg yn : Nat), yn = ys.length ∧ [0] ++ ixs 1 (lsP s 0 self) i = ys ∧ clearA' [8, 9, 10, 30, 31, 32, 33, 34, 35, 36, 37, 38, 39, 40, 41, 42, 43, 44, 45, 46, 47, 48, 49, 50, 51, 52, 53, 54, 55, 56, 57, 58, 59, 60, 61, 62, 63, 64, 65, 66, 67] fr = ([.agg (cS s), I 0, I self, .ptr 0 0, undefA, undefA, .list [] true, .sl 1 yg 0 yn, .opq, .opq, .opq, .list [] true, I 0, .bool false, .bool false, I 0, .bool false, .bool false, undefA, undefA, undefA, I 0, .bool true, .list [] true, .list [I 0] true, .sl 1 0 0 1, .ptr 0 0, .list ((s.objs).map E) false, I ((((s.objs).map E).length : Nat) : Int), I ((i : Nat) : Int)] ++ List.replicate 38 .opq ++ [undefA] : List AV) ∧ σ = [.box (cS s) false, .rows ((ys).map I) yg 1 false])) ?_ (m := s.objs.length) ⟨0, rfl, Nat.zero_le _, [0], 0, 1, rfl, rfl, by kernel_rfl, by kernel_rfl⟩ ?_
 rotate_left
 · omega
 rintro m5 fr σ ⟨i, h1, h2, ys, yg, yn, rfl, h3, h4, rfl⟩ k h5
 rw [h4]; clear h4
 have hyl := ilen h3
 simp only [List.length_cons, List.length_nil] at hyl
 obtain ⟨k, rfl⟩ : ∃ k', k = k' + 60 := ⟨k - 60, by omega⟩
 refine X.seq (X.region ?_)
 refine OK.dec (((i : Nat) : Int) < ((((s.objs).map E).length : Nat) : Int)) (by kernel_rfl) (by kernel_rfl) (fun h6 => ?_) (fun h6 => ?_)
 rotate_left
 ·
  refine OK.nil ?_
  refine X.seq (X.condF (by kernel_rfl) ?_)
  refine X.exit ?_
  show X _ _ _ _ _ _ _ _ _
  refine X.seq (X.region (OK.seg 2 (by kernel_rfl) (OK.nil ?_)))
  refine X.ret ?_
  exact ⟨rfl, giv (gives_sl (g := I) (fun _ _ => rfl) (fun _ => rfl) (b := 1) (n := yg) (ys := ys) (sz := 1) (by kernel_rfl) (by kernel_rfl)) (by exact ls_end (kind := 0) (l := [0]) h3 (by omega) rfl)⟩
 refine OK.nil ?_
 refine X.seq (X.condT (by kernel_rfl) ?_)
 refine X.skip (X.seq (X.block (X.seq (X.region (OK.seg 1 (by kernel_rfl) ?_)))))
 refine OK.val (.ro (cO ((s.objs).getD i o0)) 0) (by kernel_rfl) (fun _ => idx_map (sz := 18) (g := E) (d := o0) (xs := s.objs) (ex := false) (k := .i64) (n := ((i : Nat) : Int)) rfl Tryz.underlying22 (by kernel_rfl) (by kernel_rfl) (by kernel_rfl) (by kernel_rfl) (by omega) (by omega)) ?_
 refine OK.seg 4 (by kernel_rfl) (OK.nil ?_)
 refine X.seq (X.region (OK.seg 1 (by kernel_rfl) (OK.nil ?_)))
 refine X.seq (X.seq (X.region (OK.seg 1 (by kernel_rfl) (OK.nil ?_))))
 refine X.block (X.seq (X.seq (X.region (OK.seg 2 (by kernel_rfl) (OK.nil ?_)))))
 refine X.condF (by kernel_rfl) ?_
 refine X.region (OK.seg 2 (by kernel_rfl) (OK.nil ?_))
 refine X.condF (by kernel_rfl) ?_
 refine X.seq (X.region (OK.seg 2 (by kernel_rfl) (OK.nil ?_)))
 refine X.condF (by kernel_rfl) ?_
 refine X.seq (X.region (OK.seg 2 (by kernel_rfl) (OK.nil ?_)))
 refine X.condF (by kernel_rfl) ?_
 refine X.skip (X.seq (X.region (OK.seg 1 (by kernel_rfl) (OK.nil ?_))))
 refine X.condF (by kernel_rfl) ?_
 refine X.skip (X.region ?_)
 refine OK.val (I ((i + 1 : Nat) : Int)) (by kernel_rfl) (fun _ => add_op (k := .i64) (a := ((i : Nat) : Int)) (b := 1) rfl (by kernel_rfl) (by kernel_rfl) (by rw [wrap64] <;> omega)) ?_
 refine OK.seg 1 (by kernel_rfl) (OK.nil ?_)
 exact ⟨([.agg (cS s), I 0, I self, .ptr 0 0, undefA, undefA, .list [] true, .sl 1 yg 0 ys.length, .opq, .opq, .opq, .list [] true, I 0, .bool false, .bool false, I 0, .bool false, .bool false, undefA, undefA, undefA, I 0, .bool true, .list [] true, .list [I 0] true, .sl 1 0 0 1, .ptr 0 0, .list ((s.objs).map E) false, I ((((s.objs).map E).length : Nat) : Int), I ((i + 1 : Nat) : Int)] ++ List.replicate 38 .opq ++ [undefA] : List AV), [.box (cS s) false, .rows ((ys).map I) yg 1 false, .box (cO ((s.objs).getD i o0)) false], [0, 1, 1, 0], [[], [], []], by kernel_rfl, by kernel_rfl, by simp only [bS, bl_cC, bl_aC, bl_Am, bl_cD, bl_aD, bl_ADm, bl_EFm, bl_eC], by simp only [bS, bl_cC, bl_aC, bl_Am, bl_cD, bl_aD, bl_ADm, bl_EFm, bl_eC], by kernel_rfl, m5 - 1, by omega, i + 1, by omega, by omega, ⟨ys, yg, ys.length, rfl, iskip h3 (by rintro (⟨a1, a2⟩ | ⟨a1, a2⟩ | ⟨a1, a2⟩) <;> first | omega | exact absurd a2 (by assumption) | (simp only [spl, Int.toNat_natCast] at a2; omega)), by kernel_rfl, by kernel_rfl⟩⟩
set_option maxHeartbeats 4000000 in
theorem rList_1 : ∀ k (s : St) (self : Int) σ, wf s → rightS s → 200000 ≤ k → readW (callW Tryz.prog (exec Tryz.prog cfg k)) 120 [.agg (cS s), I 1, I self] σ = some (.list ((lsA s 1 self).map I) false, σ) := by
 intro k s self σ hyp0 hyp1 hk
 obtain ⟨k, rfl⟩ : ∃ k', k = k' + 60 := ⟨k - 60, by omega⟩
 have hw1 := hyp0.1
 have hw2 := hyp0.2
 have hlm : ((s.objs).map E).length = s.objs.length := List.length_map _
 have hRS := hyp1
 have hok := (right_of hyp1).2.1
 have hln := (right_of hyp1).1
 refine reader_of Tryz.func120 rfl (by simp only [AV.frees, AV.free, fr_I, fr_E, fr_cO, fr_cL, fr_cS, Bool.and_self]) ?_
 refine X.seq (X.region (OK.seg 2 (by kernel_rfl) (OK.nil ?_)))
 refine X.seq (X.region (OK.seg 2 (by kernel_rfl) (OK.nil ?_)))
 refine X.seq (X.seq (X.region (OK.seg 6 (by kernel_rfl) (OK.nil ?_))))
 refine X.condF (by kernel_rfl) ?_
 refine X.skip (X.seq (X.seq (X.region (OK.seg 2 (by kernel_rfl) (OK.nil ?_)))))
 refine X.condF (by kernel_rfl) ?_
 refine X.skip (X.seq (X.seq (X.region (OK.seg 4 (by kernel_rfl) (OK.nil ?_)))))
 refine X.block ?_
 refine X.rounds3 (K := 900) [8, 9, 10, 30, 31, 32, 33, 34, 35, 36, 37, 38, 39, 40, 41, 42, 43, 44, 45, 46, 47, 48, 49, 50, 51, 52, 53, 54, 55, 56, 57, 58, 59, 60, 61, 62, 63, 64, 65, 66, 67] (by kernel_rfl) rfl (fun m fr σ => ∃ i : Nat, m = s.objs.length - i ∧ i ≤ s.objs.length ∧ (([] ++ ixs 1 (lsP s 1 self) i = [] ∧ clearA' [8, 9, 10, 30, 31, 32, 33, 34, 35, 36, 37, 38, 39, 40, 41, 42, 43, 44, 45, 46, 47, 48, 49, 50, 51, 52, 53, 54, 55, 56, 57, 58, 59, 60, 61, 62, 63, 64, 65, 66, 67] fr = ([.agg (cS s), I 1, I self, .ptr 0 0, undefA, undefA, .list [] true, .list [] true, .opq, .opq, .opq, .list [] true, I 1, .bool false, .bool false, I 1, .bool false, .bool false, undefA, undefA, undefA, I 1, .bool false, undefA, undefA, undefA, .ptr 0 0, .list ((s.objs).map E) false, I ((((s.objs).map E).length : Nat) : Int), I ((i : Nat) : Int)] ++ List.replicate 38 .opq ++ [undefA] : List AV) ∧ σ = [.box (cS s) false]) ∨ ∃ (ys : List Int) (yg yn : Nat), yn = ys.length ∧ [] ++ ixs 1 (lsP s 1 self) i = ys ∧ clearA' [8, 9, 10, 30, 31, 32, 33, 34, 35, 36, 37, 38, 39, 40, 41, 42, 43, 44, 45, 46, 47, 48, 49, 50, 51, 52, 53, 54, 55, 56, 57, 58, 59, 60, 61, 62, 63, 64, 65, 66, 67] fr = ([.agg (cS s), I 1, I self, .ptr 0 0, undefA, undefA, .list [] true, .sl 2 yg 0 yn, .opq, .opq, .opq, .list [] true, I 1, .bool false, .bool false, I 1, .bool false, .bool false, undefA, undefA, undefA, I 1, .bool false, undefA, undefA, undefA, .ptr 0 0, .list ((s.objs).map E) false, I ((((s.objs).map E).length : Nat) : Int), I ((i : Nat) : Int)] ++ List.replicate 38 .opq ++ [undefA] : List AV) ∧ σ = [.box (cS s) false, .box [] true, .rows ((ys).map I) yg 1 false])) ?_ (m := s.objs.length) ⟨0, rfl, Nat.zero_le _, .inl ⟨rfl, by kernel_rfl, by kernel_rfl⟩⟩ ?_
 rotate_left
 · omega
 rintro m5 fr σ ⟨i, h1, h2, ⟨h3, h4, rfl⟩ | ⟨ys, yg, yn, rfl, h3, h4, rfl⟩⟩ k h5
 ·
  rw [h4]; clear h4
  have hyl := ilen h3
  simp only [List.length_cons, List.length_nil] at hyl
  obtain ⟨k, rfl⟩ : ∃ k', k = k' + 60 := ⟨k - 60, by omega⟩
  refine X.seq (X.region ?_)
  refine OK.dec (((i : Nat) : Int) < ((((s.objs).map E).length : Nat) : Int)) (by kernel_rfl) (by kernel_rfl) (fun h6 => ?_) (fun h6 => ?_)
  rotate_left
  ·
   refine OK.nil ?_
   refine X.seq (X.condF (by kernel_rfl) ?_)
   refine X.exit ?_
   show X _ _ _ _ _ _ _ _ _
   refine X.seq (X.region (OK.seg 2 (by kernel_rfl) (OK.nil ?_)))
   refine X.ret ?_
   exact ⟨rfl, giv (r := .list [] false) (by kernel_rfl) (by exact ls_end (kind := 1) (l := []) (ys := []) h3 (by omega) rfl)⟩
  refine OK.nil ?_
  refine X.seq (X.condT (by kernel_rfl) ?_)
  refine X.skip (X.seq (X.block (X.seq (X.region (OK.seg 1 (by kernel_rfl) ?_)))))
  refine OK.val (.ro (cO ((s.objs).getD i o0)) 0) (by kernel_rfl) (fun _ => idx_map (sz := 18) (g := E) (d := o0) (xs := s.objs) (ex := false) (k := .i64) (n := ((i : Nat) : Int)) rfl Tryz.underlying22 (by kernel_rfl) (by kernel_rfl) (by kernel_rfl) (by kernel_rfl) (by omega) (by omega)) ?_
  refine OK.seg 4 (by kernel_rfl) (OK.nil ?_)
  refine X.seq (X.region (OK.seg 1 (by kernel_rfl) (OK.nil ?_)))
  refine X.seq (X.seq (X.region (OK.seg 1 (by kernel_rfl) (OK.nil ?_))))
  refine X.block (X.seq (X.seq (X.region (OK.seg 2 (by kernel_rfl) (OK.nil ?_)))))
  refine X.condT (by kernel_rfl) ?_
  refine X.skip (X.condT (by kernel_rfl) ?_)
  refine X.region (OK.seg 2 (by kernel_rfl) ?_)
  refine OK.rdP [.agg (cS s), I ((i : Nat) : Int)] [.agg (cS s), I ((i : Nat) : Int)] (cre s ((i : Nat) : Int)) rfl (by kernel_rfl) rfl (by kernel_rfl) (by kernel_rfl) (by kernel_rfl) (by kernel_rfl) (by kernel_rfl) (rIs_w _ _ _ _ hyp0 (hok) (by omega)) (fun h7 => ?_) (fun h7 => ?_)
  rotate_left
  ·
   refine OK.seg 1 (by kernel_rfl) (OK.nil ?_)
   refine X.seq (X.region (OK.seg 1 (by kernel_rfl) (OK.nil ?_)))
   refine X.condF (by kernel_rfl) ?_
   refine X.skip (X.region ?_)
   refine OK.val (I ((i + 1 : Nat) : Int)) (by kernel_rfl) (fun _ => add_op (k := .i64) (a := ((i : Nat) : Int)) (b := 1) rfl (by kernel_rfl) (by kernel_rfl) (by rw [wrap64] <;> omega)) ?_
   refine OK.seg 1 (by kernel_rfl) (OK.nil ?_)
   exact ⟨([.agg (cS s), I 1, I self, .ptr 0 0, undefA, undefA, .list [] true, .list [] true, .opq, .opq, .opq, .list [] true, I 1, .bool false, .bool false, I 1, .bool false, .bool false, undefA, undefA, undefA, I 1, .bool false, undefA, undefA, undefA, .ptr 0 0, .list ((s.objs).map E) false, I ((((s.objs).map E).length : Nat) : Int), I ((i + 1 : Nat) : Int)] ++ List.replicate 38 .opq ++ [undefA] : List AV), [.box (cS s) false, .box (cO ((s.objs).getD i o0)) false], [0, 0], [[], []], by kernel_rfl, by kernel_rfl, by simp only [bS, bl_cC, bl_aC, bl_Am, bl_cD, bl_aD, bl_ADm, bl_EFm, bl_eC], by simp only [bS, bl_cC, bl_aC, bl_Am, bl_cD, bl_aD, bl_ADm, bl_EFm, bl_eC], by kernel_rfl, m5 - 1, by omega, i + 1, by omega, by omega, .inl ⟨iskip h3 (by rintro (⟨a1, a2⟩ | ⟨a1, a2⟩ | ⟨a1, a2⟩) <;> first | omega | exact absurd a2 (by assumption) | (simp only [spl, Int.toNat_natCast] at a2; omega)), by kernel_rfl, by kernel_rfl⟩⟩
  refine OK.seg 1 (by kernel_rfl) (OK.nil ?_)
  refine X.seq (X.region (OK.seg 1 (by kernel_rfl) (OK.nil ?_)))
  refine X.condT (by kernel_rfl) ?_
  refine X.region (OK.seg 2 (by kernel_rfl) ?_)
  refine OK.val (I ((i + 1 : Nat) : Int)) (by kernel_rfl) (fun _ => add_op (k := .i64) (a := ((i : Nat) : Int)) (b := 1) rfl (by kernel_rfl) (by kernel_rfl) (by rw [wrap64] <;> omega)) ?_
  refine OK.seg 3 (by kernel_rfl) (OK.nil ?_)
  refine X.region ?_
  refine OK.val (I ((i + 1 : Nat) : Int)) (by kernel_rfl) (fun _ => add_op (k := .i64) (a := ((i : Nat) : Int)) (b := 1) rfl (by kernel_rfl) (by kernel_rfl) (by rw [wrap64] <;> omega)) ?_
  refine OK.seg 1 (by kernel_rfl) (OK.nil ?_)
  exact ⟨([.agg (cS s), I 1, I self, .ptr 0 0, undefA, undefA, .list [] true, .sl 2 0 0 1, .opq, .opq, .opq, .list [] true, I 1, .bool false, .bool false, I 1, .bool false, .bool false, undefA, undefA, undefA, I 1, .bool false, undefA, undefA, undefA, .ptr 0 0, .list ((s.objs).map E) false, I ((((s.objs).map E).length : Nat) : Int), I ((i + 1 : Nat) : Int)] ++ List.replicate 38 .opq ++ [undefA] : List AV), [.box (cS s) false, .box (cO ((s.objs).getD i o0)) false, .rows (([((i + 1 : Nat) : Int)]).map I) 0 1 false], [0, 2, 0], [[], [], []], by kernel_rfl, by kernel_rfl, by simp only [bS, bl_cC, bl_aC, bl_Am, bl_cD, bl_aD, bl_ADm, bl_EFm, bl_eC], by simp only [bS, bl_cC, bl_aC, bl_Am, bl_cD, bl_aD, bl_ADm, bl_EFm, bl_eC], by kernel_rfl, m5 - 1, by omega, i + 1, by omega, by omega, .inr ⟨[((i + 1 : Nat) : Int)], 0, 1, rfl, iadd h3 (by first | exact .inl ⟨by omega, by assumption⟩ | exact .inr (.inl ⟨by omega, by simp only [spl, Int.toNat_natCast]; omega⟩) | exact .inr (.inr ⟨by omega, by assumption⟩)), by kernel_rfl, by kernel_rfl⟩⟩
 ·
  rw [h4]; clear h4
  have hyl := ilen h3
  simp only [List.length_cons, List.length_nil] at hyl
  obtain ⟨k, rfl⟩ : ∃ k', k = k' + 60 := ⟨k - 60, by omega⟩
  refine X.seq (X.region ?_)
  refine OK.dec (((i : Nat) : Int) < ((((s.objs).map E).length : Nat) : Int)) (by kernel_rfl) (by kernel_rfl) (fun h8 => ?_) (fun h8 => ?_)
  rotate_left
  ·
   refine OK.nil ?_
   refine X.seq (X.condF (by kernel_rfl) ?_)
   refine X.exit ?_
   show X _ _ _ _ _ _ _ _ _
   refine X.seq (X.region (OK.seg 2 (by kernel_rfl) (OK.nil ?_)))
   refine X.ret ?_
   exact ⟨rfl, giv (gives_sl (g := I) (fun _ _ => rfl) (fun _ => rfl) (b := 2) (n := yg) (ys := ys) (sz := 1) (by kernel_rfl) (by kernel_rfl)) (by exact ls_end (kind := 1) (l := []) h3 (by omega) rfl)⟩
  refine OK.nil ?_
  refine X.seq (X.condT (by kernel_rfl) ?_)
  refine X.skip (X.seq (X.block (X.seq (X.region (OK.seg 1 (by kernel_rfl) ?_)))))
  refine OK.val (.ro (cO ((s.objs).getD i o0)) 0) (by kernel_rfl) (fun _ => idx_map (sz := 18) (g := E) (d := o0) (xs := s.objs) (ex := false) (k := .i64) (n := ((i : Nat) : Int)) rfl Tryz.underlying22 (by kernel_rfl) (by kernel_rfl) (by kernel_rfl) (by kernel_rfl) (by omega) (by omega)) ?_
  refine OK.seg 4 (by kernel_rfl) (OK.nil ?_)
  refine X.seq (X.region (OK.seg 1 (by kernel_rfl) (OK.nil ?_)))
  refine X.seq (X.seq (X.region (OK.seg 1 (by kernel_rfl) (OK.nil ?_))))
  refine X.block (X.seq (X.seq (X.region (OK.seg 2 (by kernel_rfl) (OK.nil ?_)))))
  refine X.condT (by kernel_rfl) ?_
  refine X.skip (X.condT (by kernel_rfl) ?_)
  refine X.region (OK.seg 2 (by kernel_rfl) ?_)
  refine OK.rdP [.agg (cS s), I ((i : Nat) : Int)] [.agg (cS s), I ((i : Nat) : Int)] (cre s ((i : Nat) : Int)) rfl (by kernel_rfl) rfl (by kernel_rfl) (by kernel_rfl) (by kernel_rfl) (by kernel_rfl) (by kernel_rfl) (rIs_w _ _ _ _ hyp0 (hok) (by omega)) (fun h9 => ?_) (fun h9 => ?_)
  rotate_left
  ·
   refine OK.seg 1 (by kernel_rfl) (OK.nil ?_)
   refine X.seq (X.region (OK.seg 1 (by kernel_rfl) (OK.nil ?_)))
   refine X.condF (by kernel_rfl) ?_
   refine X.skip (X.region ?_)
   refine OK.val (I ((i + 1 : Nat) : Int)) (by kernel_rfl) (fun _ => add_op (k := .i64) (a := ((i : Nat) : Int)) (b := 1) rfl (by kernel_rfl) (by kernel_rfl) (by rw [wrap64] <;> omega)) ?_
   refine OK.seg 1 (by kernel_rfl) (OK.nil ?_)
   exact ⟨([.agg (cS s), I 1, I self, .ptr 0 0, undefA, undefA, .list [] true, .sl 2 yg 0 ys.length, .opq, .opq, .opq, .list [] true, I 1, .bool false, .bool false, I 1, .bool false, .bool false, undefA, undefA, undefA, I 1, .bool false, undefA, undefA, undefA, .ptr 0 0, .list ((s.objs).map E) false, I ((((s.objs).map E).length : Nat) : Int), I ((i + 1 : Nat) : Int)] ++ List.replicate 38 .opq ++ [undefA] : List AV), [.box (cS s) false, .box [] true, .rows ((ys).map I) yg 1 false, .box (cO ((s.objs).getD i o0)) false], [0, 2, 0], [[], [], [], []], by kernel_rfl, by kernel_rfl, by simp only [bS, bl_cC, bl_aC, bl_Am, bl_cD, bl_aD, bl_ADm, bl_EFm, bl_eC], by simp only [bS, bl_cC, bl_aC, bl_Am, bl_cD, bl_aD, bl_ADm, bl_EFm, bl_eC], by kernel_rfl, m5 - 1, by omega, i + 1, by omega, by omega, .inr ⟨ys, yg, ys.length, rfl, iskip h3 (by rintro (⟨a1, a2⟩ | ⟨a1, a2⟩ | ⟨a1, a2⟩) <;> first | omega | exact absurd a2 (by assumption) | (simp only [spl, Int.toNat_natCast] at a2; omega)), by kernel_rfl, by kernel_rfl⟩⟩
  refine OK.seg 1 (by kernel_rfl) (OK.nil ?_)
  refine X.seq (X.region (OK.seg 1 (by kernel_rfl) (OK.nil ?_)))
  refine X.condT (by kernel_rfl) ?_
  refine X.region (OK.seg 2 (by kernel_rfl) ?_)
  refine OK.val (I ((i + 1 : Nat) : Int)) (by kernel_rfl) (fun _ => add_op (k := .i64) (a := ((i : Nat) : Int)) (b := 1) rfl (by kernel_rfl) (by kernel_rfl) (by rw [wrap64] <;> omega)) ?_
  refine OK.seg 1 (by kernel_rfl) ?_
  refine OK.opS (.sl 2 (yg + 1) 0 (ys.length + 1)) [.box (cS s) false, .box [] true, .rows (((ys) ++ [((i + 1 : Nat) : Int)]).map I) (yg + 1) 1 false, .box (cO ((s.objs).getD i o0)) false] (by kernel_rfl) (ap_sl (b := 2) (n := yg) (ex := true) (g := I) (ys := ys) (v := ((i + 1 : Nat) : Int)) rfl rfl rfl rfl Tryz.underlying23 Tryz.underlying23 (by kernel_rfl) (by_ := 8) (by kernel_rfl) (z := I 0) (by kernel_rfl) rfl (by omega) (fun _ => rfl) (fun _ => rfl) (by kernel_rfl) (by kernel_rfl) (Nat.zero_le _) (ap_bd (by omega)) (by kernel_rfl)) ?_
  refine OK.seg 1 (by kernel_rfl) (OK.nil ?_)
  refine X.region ?_
  refine OK.val (I ((i + 1 : Nat) : Int)) (by kernel_rfl) (fun _ => add_op (k := .i64) (a := ((i : Nat) : Int)) (b := 1) rfl (by kernel_rfl) (by kernel_rfl) (by rw [wrap64] <;> omega)) ?_
  refine OK.seg 1 (by kernel_rfl) (OK.nil ?_)
  exact ⟨([.agg (cS s), I 1, I self, .ptr 0 0, undefA, undefA, .list [] true, .sl 2 (yg + 1) 0 (ys.length + 1), .opq, .opq, .opq, .list [] true, I 1, .bool false, .bool false, I 1, .bool false, .bool false, undefA, undefA, undefA, I 1, .bool false, undefA, undefA, undefA, .ptr 0 0, .list ((s.objs).map E) false, I ((((s.objs).map E).length : Nat) : Int), I ((i + 1 : Nat) : Int)] ++ List.replicate 38 .opq ++ [undefA] : List AV), [.box (cS s) false, .box [] true, .rows (((ys) ++ [((i + 1 : Nat) : Int)]).map I) (yg + 1) 1 false, .box (cO ((s.objs).getD i o0)) false], [0, 2, 0], [[], [], [], []], by kernel_rfl, by kernel_rfl, by simp only [bS, bl_cC, bl_aC, bl_Am, bl_cD, bl_aD, bl_ADm, bl_EFm, bl_eC], by simp only [bS, bl_cC, bl_aC, bl_Am, bl_cD, bl_aD, bl_ADm, bl_EFm, bl_eC], by kernel_rfl, m5 - 1, by omega, i + 1, by omega, by omega, .inr ⟨ys ++ [((i + 1 : Nat) : Int)], yg + 1, ys.length + 1, by simp, iadd h3 (by first | exact .inl ⟨by omega, by assumption⟩ | exact .inr (.inl ⟨by omega, by simp only [spl, Int.toNat_natCast]; omega⟩) | exact .inr (.inr ⟨by omega, by assumption⟩)), by kernel_rfl, by kernel_rfl⟩⟩
set_option maxHeartbeats 4000000 in
theorem rList_2 : ∀ k (s : St) (self : Int) σ, wf s → rightS s → 200000 ≤ k → readW (callW Tryz.prog (exec Tryz.prog cfg k)) 120 [.agg (cS s), I 2, I self] σ = some (.list ((lsA s 2 self).map I) false, σ) := by
 intro k s self σ hyp0 hyp1 hk
 obtain ⟨k, rfl⟩ : ∃ k', k = k' + 60 := ⟨k - 60, by omega⟩
 have hw1 := hyp0.1
 have hw2 := hyp0.2
 have hlm : ((s.objs).map E).length = s.objs.length := List.length_map _
 have hRS := hyp1
 have hok := (right_of hyp1).2.1
 have hln := (right_of hyp1).1
 refine reader_of Tryz.func120 rfl (by simp only [AV.frees, AV.free, fr_I, fr_E, fr_cO, fr_cL, fr_cS, Bool.and_self]) ?_
 refine X.seq (X.region (OK.seg 2 (by kernel_rfl) (OK.nil ?_)))
 refine X.seq (X.region (OK.seg 2 (by kernel_rfl) (OK.nil ?_)))
 refine X.seq (X.seq (X.region (OK.seg 6 (by kernel_rfl) (OK.nil ?_))))
 refine X.condT (by kernel_rfl) ?_
 refine X.region (OK.seg 4 (by kernel_rfl) (OK.nil ?_))
 refine X.seq (X.seq (X.region (OK.seg 2 (by kernel_rfl) (OK.nil ?_))))
 refine X.condF (by kernel_rfl) ?_
 refine X.skip (X.seq (X.seq (X.region (OK.seg 4 (by kernel_rfl) (OK.nil ?_)))))
 refine X.block ?_
 refine X.rounds3 (K := 900) [8, 9, 10, 30, 31, 32, 33, 34, 35, 36, 37, 38, 39, 40, 41, 42, 43, 44, 45, 46, 47, 48, 49, 50, 51, 52, 53, 54, 55, 56, 57, 58, 59, 60, 61, 62, 63, 64, 65, 66, 67] (by kernel_rfl) rfl (fun m fr σ => ∃ i : Nat, m = s.objs.length - i ∧ i ≤ s.objs.length ∧ (∃ (ys : List Int) (yg yn : Nat), yn = ys.length ∧ [(-2), (-1)] ++ ixs 1 (lsP s 2 self) i = ys ∧ clearA' [8, 9, 10, 30, 31, 32, 33, 34, 35, 36, 37, 38, 39, 40, 41, 42, 43, 44, 45, 46, 47, 48, 49, 50, 51, 52, 53, 54, 55, 56, 57, 58, 59, 60, 61, 62, 63, 64, 65, 66, 67] fr = ([.agg (cS s), I 2, I self, .ptr 0 0, undefA, undefA, .list [] true, .sl 1 yg 0 yn, .opq, .opq, .opq, .list [] true, I 2, .bool true, .bool true, undefA, undefA, .bool true, .list [] true, .list [I (-2), I (-1)] true, .sl 1 0 0 2, I 2, .bool false, undefA, undefA, undefA, .ptr 0 0, .list ((s.objs).map E) false, I ((((s.objs).map E).length : Nat) : Int), I ((i : Nat) : Int)] ++ List.replicate 38 .opq ++ [undefA] : List AV) ∧ σ = [.box (cS s) false, .rows ((ys).map I) yg 1 false])) ?_ (m := s.objs.length) ⟨0, rfl, Nat.zero_le _, [(-2), (-1)], 0, 2, rfl, rfl, by kernel_rfl, by kernel_rfl⟩ ?_
 rotate_left
 · omega
 rintro m5 fr σ ⟨i, h1, h2, ys, yg, yn, rfl, h3, h4, rfl⟩ k h5
 rw [h4]; clear h4
 have hyl := ilen h3
 simp only [List.length_cons, List.length_nil] at hyl
 obtain ⟨k, rfl⟩ : ∃ k', k = k' + 60 := ⟨k - 60, by omega⟩
 refine X.seq (X.region ?_)
 refine OK.dec (((i : Nat) : Int) < ((((s.objs).map E).length : Nat) : Int)) (by kernel_rfl) (by kernel_rfl) (fun h6 => ?_) (fun h6 => ?_)
 rotate_left
 ·
  refine OK.nil ?_
  refine X.seq (X.condF (by kernel_rfl) ?_)
  refine X.exit ?_
  show X _ _ _ _ _ _ _ _ _
  refine X.seq (X.region (OK.seg 2 (by kernel_rfl) (OK.nil ?_)))
  refine X.ret ?_
  exact ⟨rfl, giv (gives_sl (g := I) (fun _ _ => rfl) (fun _ => rfl) (b := 1) (n := yg) (ys := ys) (sz := 1) (by kernel_rfl) (by kernel_rfl)) (by exact ls_end (kind := 2) (l := [(-2), (-1)]) h3 (by omega) rfl)⟩
 refine OK.nil ?_
 refine X.seq (X.condT (by kernel_rfl) ?_)
 refine X.skip (X.seq (X.block (X.seq (X.region (OK.seg 1 (by kernel_rfl) ?_)))))
 refine OK.val (.ro (cO ((s.objs).getD i o0)) 0) (by kernel_rfl) (fun _ => idx_map (sz := 18) (g := E) (d := o0) (xs := s.objs) (ex := false) (k := .i64) (n := ((i : Nat) : Int)) rfl Tryz.underlying22 (by kernel_rfl) (by kernel_rfl) (by kernel_rfl) (by kernel_rfl) (by omega) (by omega)) ?_
 refine OK.seg 4 (by kernel_rfl) (OK.nil ?_)
 refine X.seq (X.region (OK.seg 1 (by kernel_rfl) (OK.nil ?_)))
 refine X.seq (X.seq (X.region (OK.seg 1 (by kernel_rfl) (OK.nil ?_))))
 refine X.block (X.seq (X.seq (X.region (OK.seg 2 (by kernel_rfl) (OK.nil ?_)))))
 refine X.condF (by kernel_rfl) ?_
 refine X.region (OK.seg 2 (by kernel_rfl) (OK.nil ?_))
 refine X.condF (by kernel_rfl) ?_
 refine X.seq (X.region (OK.seg 2 (by kernel_rfl) (OK.nil ?_)))
 refine X.condF (by kernel_rfl) ?_
 refine X.seq (X.region (OK.seg 2 (by kernel_rfl) (OK.nil ?_)))
 refine X.condF (by kernel_rfl) ?_
 refine X.skip (X.seq (X.region (OK.seg 1 (by kernel_rfl) (OK.nil ?_))))
 refine X.condF (by kernel_rfl) ?_
 refine X.skip (X.region ?_)
 refine OK.val (I ((i + 1 : Nat) : Int)) (by kernel_rfl) (fun _ => add_op (k := .i64) (a := ((i : Nat) : Int)) (b := 1) rfl (by kernel_rfl) (by kernel_rfl) (by rw [wrap64] <;> omega)) ?_
 refine OK.seg 1 (by kernel_rfl) (OK.nil ?_)
 exact ⟨([.agg (cS s), I 2, I self, .ptr 0 0, undefA, undefA, .list [] true, .sl 1 yg 0 ys.length, .opq, .opq, .opq, .list [] true, I 2, .bool true, .bool true, undefA, undefA, .bool true, .list [] true, .list [I (-2), I (-1)] true, .sl 1 0 0 2, I 2, .bool false, undefA, undefA, undefA, .ptr 0 0, .list ((s.objs).map E) false, I ((((s.objs).map E).length : Nat) : Int), I ((i + 1 : Nat) : Int)] ++ List.replicate 38 .opq ++ [undefA] : List AV), [.box (cS s) false, .rows ((ys).map I) yg 1 false, .box (cO ((s.objs).getD i o0)) false], [0, 1, 1, 0], [[], [], []], by kernel_rfl, by kernel_rfl, by simp only [bS, bl_cC, bl_aC, bl_Am, bl_cD, bl_aD, bl_ADm, bl_EFm, bl_eC], by simp only [bS, bl_cC, bl_aC, bl_Am, bl_cD, bl_aD, bl_ADm, bl_EFm, bl_eC], by kernel_rfl, m5 - 1, by omega, i + 1, by omega, by omega, ⟨ys, yg, ys.length, rfl, iskip h3 (by rintro (⟨a1, a2⟩ | ⟨a1, a2⟩ | ⟨a1, a2⟩) <;> first | omega | exact absurd a2 (by assumption) | (simp only [spl, Int.toNat_natCast] at a2; omega)), by kernel_rfl, by kernel_rfl⟩⟩
set_option maxHeartbeats 4000000 in
theorem rList_3 : ∀ k (s : St) (self : Int) σ, wf s → rightS s → 200000 ≤ k → readW (callW Tryz.prog (exec Tryz.prog cfg k)) 120 [.agg (cS s), I 3, I self] σ = some (.list ((lsA s 3 self).map I) false, σ) := by
 intro k s self σ hyp0 hyp1 hk
 obtain ⟨k, rfl⟩ : ∃ k', k = k' + 60 := ⟨k - 60, by omega⟩
 have hw1 := hyp0.1
 have hw2 := hyp0.2
 have hlm : ((s.objs).map E).length = s.objs.length := List.length_map _
 have hRS := hyp1
 have hok := (right_of hyp1).2.1
 have hln := (right_of hyp1).1
 refine reader_of Tryz.func120 rfl (by simp only [AV.frees, AV.free, fr_I, fr_E, fr_cO, fr_cL, fr_cS, Bool.and_self]) ?_
 refine X.seq (X.region (OK.seg 2 (by kernel_rfl) (OK.nil ?_)))
 refine X.seq (X.region (OK.seg 2 (by kernel_rfl) (OK.nil ?_)))
 refine X.seq (X.seq (X.region (OK.seg 6 (by kernel_rfl) (OK.nil ?_))))
 refine X.condT (by kernel_rfl) ?_
 refine X.region (OK.seg 4 (by kernel_rfl) (OK.nil ?_))
 refine X.seq (X.seq (X.region (OK.seg 2 (by kernel_rfl) (OK.nil ?_))))
 refine X.condF (by kernel_rfl) ?_
 refine X.skip (X.seq (X.seq (X.region (OK.seg 4 (by kernel_rfl) (OK.nil ?_)))))
 refine X.block ?_
 refine X.rounds3 (K := 900) [8, 9, 10, 30, 31, 32, 33, 34, 35, 36, 37, 38, 39, 40, 41, 42, 43, 44, 45, 46, 47, 48, 49, 50, 51, 52, 53, 54, 55, 56, 57, 58, 59, 60, 61, 62, 63, 64, 65, 66, 67] (by kernel_rfl) rfl (fun m fr σ => ∃ i : Nat, m = s.objs.length - i ∧ i ≤ s.objs.length ∧ (∃ (ys : List Int) (yg yn : Nat), yn = ys.length ∧ [(-2), (-1)] ++ ixs 1 (lsP s 3 self) i = ys ∧ clearA' [8, 9, 10, 30, 31, 32, 33, 34, 35, 36, 37, 38, 39, 40, 41, 42, 43, 44, 45, 46, 47, 48, 49, 50, 51, 52, 53, 54, 55, 56, 57, 58, 59, 60, 61, 62, 63, 64, 65, 66, 67] fr = ([.agg (cS s), I 3, I self, .ptr 0 0, undefA, undefA, .list [] true, .sl 1 yg 0 yn, .opq, .opq, .opq, .list [] true, I 3, .bool false, .bool false, I 3, .bool true, .bool true, .list [] true, .list [I (-2), I (-1)] true, .sl 1 0 0 2, I 3, .bool false, undefA, undefA, undefA, .ptr 0 0, .list ((s.objs).map E) false, I ((((s.objs).map E).length : Nat) : Int), I ((i : Nat) : Int)] ++ List.replicate 38 .opq ++ [undefA] : List AV) ∧ σ = [.box (cS s) false, .rows ((ys).map I) yg 1 false])) ?_ (m := s.objs.length) ⟨0, rfl, Nat.zero_le _, [(-2), (-1)], 0, 2, rfl, rfl, by kernel_rfl, by kernel_rfl⟩ ?_
 rotate_left
 · omega
 rintro m5 fr σ ⟨i, h1, h2, ys, yg, yn, rfl, h3, h4, rfl⟩ k h5
 rw [h4]; clear h4
 have hyl := ilen h3
 simp only [List.length_cons, List.length_nil] at hyl
 obtain ⟨k, rfl⟩ : ∃ k', k = k' + 60 := ⟨k - 60, by omega⟩
 refine X.seq (X.region ?_)
 refine OK.dec (((i : Nat) : Int) < ((((s.objs).map E).length : Nat) : Int)) (by kernel_rfl) (by kernel_rfl) (fun h6 => ?_) (fun h6 => ?_)
 rotate_left
 ·
  refine OK.nil ?_
  refine X.seq (X.condF (by kernel_rfl) ?_)
  refine X.exit ?_
  show X _ _ _ _ _ _ _ _ _
  refine X.seq (X.region (OK.seg 2 (by kernel_rfl) (OK.nil ?_)))
  refine X.ret ?_
  exact ⟨rfl, giv (gives_sl (g := I) (fun _ _ => rfl) (fun _ => rfl) (b := 1) (n := yg) (ys := ys) (sz := 1) (by kernel_rfl) (by kernel_rfl)) (by exact ls_end (kind := 3) (l := [(-2), (-1)]) h3 (by omega) rfl)⟩
 refine OK.nil ?_
 refine X.seq (X.condT (by kernel_rfl) ?_)
 refine X.skip (X.seq (X.block (X.seq (X.region (OK.seg 1 (by kernel_rfl) ?_)))))
 refine OK.val (.ro (cO ((s.objs).getD i o0)) 0) (by kernel_rfl) (fun _ => idx_map (sz := 18) (g := E) (d := o0) (xs := s.objs) (ex := false) (k := .i64) (n := ((i : Nat) : Int)) rfl Tryz.underlying22 (by kernel_rfl) (by kernel_rfl) (by kernel_rfl) (by kernel_rfl) (by omega) (by omega)) ?_
 refine OK.seg 4 (by kernel_rfl) (OK.nil ?_)
 refine X.seq (X.region (OK.seg 1 (by kernel_rfl) (OK.nil ?_)))
 refine X.seq (X.seq (X.region (OK.seg 1 (by kernel_rfl) (OK.nil ?_))))
 refine X.block (X.seq (X.seq (X.region (OK.seg 2 (by kernel_rfl) (OK.nil ?_)))))
 refine X.condF (by kernel_rfl) ?_
 refine X.region (OK.seg 2 (by kernel_rfl) (OK.nil ?_))
 refine X.condT (by kernel_rfl) ?_
 refine X.region (OK.seg 2 (by kernel_rfl) ?_)
 refine OK.rdP [.agg (cS s), I ((i : Nat) : Int)] [.agg (cS s), I ((i : Nat) : Int)] (cre s ((i : Nat) : Int)) rfl (by kernel_rfl) rfl (by kernel_rfl) (by kernel_rfl) (by kernel_rfl) (by kernel_rfl) (by kernel_rfl) (rIs_w _ _ _ _ hyp0 (hok) (by omega)) (fun h7 => ?_) (fun h7 => ?_)
 rotate_left
 ·
  refine OK.seg 1 (by kernel_rfl) (OK.nil ?_)
  refine X.seq (X.region (OK.seg 1 (by kernel_rfl) (OK.nil ?_)))
  refine X.condF (by kernel_rfl) ?_
  refine X.skip (X.region ?_)
  refine OK.val (I ((i + 1 : Nat) : Int)) (by kernel_rfl) (fun _ => add_op (k := .i64) (a := ((i : Nat) : Int)) (b := 1) rfl (by kernel_rfl) (by kernel_rfl) (by rw [wrap64] <;> omega)) ?_
  refine OK.seg 1 (by kernel_rfl) (OK.nil ?_)
  exact ⟨([.agg (cS s), I 3, I self, .ptr 0 0, undefA, undefA, .list [] true, .sl 1 yg 0 ys.length, .opq, .opq, .opq, .list [] true, I 3, .bool false, .bool false, I 3, .bool true, .bool true, .list [] true, .list [I (-2), I (-1)] true, .sl 1 0 0 2, I 3, .bool false, undefA, undefA, undefA, .ptr 0 0, .list ((s.objs).map E) false, I ((((s.objs).map E).length : Nat) : Int), I ((i + 1 : Nat) : Int)] ++ List.replicate 38 .opq ++ [undefA] : List AV), [.box (cS s) false, .rows ((ys).map I) yg 1 false, .box (cO ((s.objs).getD i o0)) false], [0, 1, 1, 0], [[], [], []], by kernel_rfl, by kernel_rfl, by simp only [bS, bl_cC, bl_aC, bl_Am, bl_cD, bl_aD, bl_ADm, bl_EFm, bl_eC], by simp only [bS, bl_cC, bl_aC, bl_Am, bl_cD, bl_aD, bl_ADm, bl_EFm, bl_eC], by kernel_rfl, m5 - 1, by omega, i + 1, by omega, by omega, ⟨ys, yg, ys.length, rfl, iskip h3 (by rintro (⟨a1, a2⟩ | ⟨a1, a2⟩ | ⟨a1, a2⟩) <;> first | omega | exact absurd a2 (by assumption) | (simp only [spl, Int.toNat_natCast] at a2; omega)), by kernel_rfl, by kernel_rfl⟩⟩
 refine OK.seg 1 (by kernel_rfl) (OK.nil ?_)
 refine X.seq (X.region (OK.seg 1 (by kernel_rfl) (OK.nil ?_)))
 refine X.condT (by kernel_rfl) ?_
 refine X.region (OK.seg 2 (by kernel_rfl) ?_)
 refine OK.val (I ((i + 1 : Nat) : Int)) (by kernel_rfl) (fun _ => add_op (k := .i64) (a := ((i : Nat) : Int)) (b := 1) rfl (by kernel_rfl) (by kernel_rfl) (by rw [wrap64] <;> omega)) ?_
 refine OK.seg 1 (by kernel_rfl) ?_
 refine OK.opS (.sl 1 (yg + 1) 0 (ys.length + 1)) [.box (cS s) false, .rows (((ys) ++ [((i + 1 : Nat) : Int)]).map I) (yg + 1) 1 false, .box (cO ((s.objs).getD i o0)) false] (by kernel_rfl) (ap_sl (b := 1) (n := yg) (ex := true) (g := I) (ys := ys) (v := ((i + 1 : Nat) : Int)) rfl rfl rfl rfl Tryz.underlying23 Tryz.underlying23 (by kernel_rfl) (by_ := 8) (by kernel_rfl) (z := I 0) (by kernel_rfl) rfl (by omega) (fun _ => rfl) (fun _ => rfl) (by kernel_rfl) (by kernel_rfl) (Nat.zero_le _) (ap_bd (by omega)) (by kernel_rfl)) ?_
 refine OK.seg 1 (by kernel_rfl) (OK.nil ?_)
 refine X.region ?_
 refine OK.val (I ((i + 1 : Nat) : Int)) (by kernel_rfl) (fun _ => add_op (k := .i64) (a := ((i : Nat) : Int)) (b := 1) rfl (by kernel_rfl) (by kernel_rfl) (by rw [wrap64] <;> omega)) ?_
 refine OK.seg 1 (by kernel_rfl) (OK.nil ?_)
 exact ⟨([.agg (cS s), I 3, I self, .ptr 0 0, undefA, undefA, .list [] true, .sl 1 (yg + 1) 0 (ys.length + 1), .opq, .opq, .opq, .list [] true, I 3, .bool false, .bool false, I 3, .bool true, .bool true, .list [] true, .list [I (-2), I (-1)] true, .sl 1 0 0 2, I 3, .bool false, undefA, undefA, undefA, .ptr 0 0, .list ((s.objs).map E) false, I ((((s.objs).map E).length : Nat) : Int), I ((i + 1 : Nat) : Int)] ++ List.replicate 38 .opq ++ [undefA] : List AV), [.box (cS s) false, .rows (((ys) ++ [((i + 1 : Nat) : Int)]).map I) (yg + 1) 1 false, .box (cO ((s.objs).getD i o0)) false], [0, 1, 1, 0], [[], [], []], by kernel_rfl, by kernel_rfl, by simp only [bS, bl_cC, bl_aC, bl_Am, bl_cD, bl_aD, bl_ADm, bl_EFm, bl_eC], by simp only [bS, bl_cC, bl_aC, bl_Am, bl_cD, bl_aD, bl_ADm, bl_EFm, bl_eC], by kernel_rfl, m5 - 1, by omega, i + 1, by omega, by omega, ⟨ys ++ [((i + 1 : Nat) : Int)], yg + 1, ys.length + 1, by simp, iadd h3 (by first | exact .inl ⟨by omega, by assumption⟩ | exact .inr (.inl ⟨by omega, by simp only [spl, Int.toNat_natCast]; omega⟩) | exact .inr (.inr ⟨by omega, by assumption⟩)), by kernel_rfl, by kernel_rfl⟩⟩
set_option maxHeartbeats 4000000 in
theorem rList_4 : ∀ k (s : St) (self : Int) σ, wf s → rightS s → 200000 ≤ k → readW (callW Tryz.prog (exec Tryz.prog cfg k)) 120 [.agg (cS s), I 4, I self] σ = some (.list ((lsA s 4 self).map I) false, σ) := by
 intro k s self σ hyp0 hyp1 hk
 obtain ⟨k, rfl⟩ : ∃ k', k = k' + 60 := ⟨k - 60, by omega⟩
 have hw1 := hyp0.1
 have hw2 := hyp0.2
 have hlm : ((s.objs).map E).length = s.objs.length := List.length_map _
 have hRS := hyp1
 have hok := (right_of hyp1).2.1
 have hln := (right_of hyp1).1
 refine reader_of Tryz.func120 rfl (by simp only [AV.frees, AV.free, fr_I, fr_E, fr_cO, fr_cL, fr_cS, Bool.and_self]) ?_
 refine X.seq (X.region (OK.seg 2 (by kernel_rfl) (OK.nil ?_)))
 refine X.seq (X.region (OK.seg 2 (by kernel_rfl) (OK.nil ?_)))
 refine X.seq (X.seq (X.region (OK.seg 6 (by kernel_rfl) (OK.nil ?_))))
 refine X.condF (by kernel_rfl) ?_
 refine X.skip (X.seq (X.seq (X.region (OK.seg 2 (by kernel_rfl) (OK.nil ?_)))))
 refine X.condF (by kernel_rfl) ?_
 refine X.skip (X.seq (X.seq (X.region (OK.seg 4 (by kernel_rfl) (OK.nil ?_)))))
 refine X.block ?_
 refine X.rounds3 (K := 900) [8, 9, 10, 30, 31, 32, 33, 34, 35, 36, 37, 38, 39, 40, 41, 42, 43, 44, 45, 46, 47, 48, 49, 50, 51, 52, 53, 54, 55, 56, 57, 58, 59, 60, 61, 62, 63, 64, 65, 66, 67] (by kernel_rfl) rfl (fun m fr σ => ∃ i : Nat, m = s.objs.length - i ∧ i ≤ s.objs.length ∧ (([] ++ ixs 1 (lsP s 4 self) i = [] ∧ clearA' [8, 9, 10, 30, 31, 32, 33, 34, 35, 36, 37, 38, 39, 40, 41, 42, 43, 44, 45, 46, 47, 48, 49, 50, 51, 52, 53, 54, 55, 56, 57, 58, 59, 60, 61, 62, 63, 64, 65, 66, 67] fr = ([.agg (cS s), I 4, I self, .ptr 0 0, undefA, undefA, .list [] true, .list [] true, .opq, .opq, .opq, .list [] true, I 4, .bool false, .bool false, I 4, .bool false, .bool false, undefA, undefA, undefA, I 4, .bool false, undefA, undefA, undefA, .ptr 0 0, .list ((s.objs).map E) false, I ((((s.objs).map E).length : Nat) : Int), I ((i : Nat) : Int)] ++ List.replicate 38 .opq ++ [undefA] : List AV) ∧ σ = [.box (cS s) false]) ∨ ∃ (ys : List Int) (yg yn : Nat), yn = ys.length ∧ [] ++ ixs 1 (lsP s 4 self) i = ys ∧ clearA' [8, 9, 10, 30, 31, 32, 33, 34, 35, 36, 37, 38, 39, 40, 41, 42, 43, 44, 45, 46, 47, 48, 49, 50, 51, 52, 53, 54, 55, 56, 57, 58, 59, 60, 61, 62, 63, 64, 65, 66, 67] fr = ([.agg (cS s), I 4, I self, .ptr 0 0, undefA, undefA, .list [] true, .sl 2 yg 0 yn, .opq, .opq, .opq, .list [] true, I 4, .bool false, .bool false, I 4, .bool false, .bool false, undefA, undefA, undefA, I 4, .bool false, undefA, undefA, undefA, .ptr 0 0, .list ((s.objs).map E) false, I ((((s.objs).map E).length : Nat) : Int), I ((i : Nat) : Int)] ++ List.replicate 38 .opq ++ [undefA] : List AV) ∧ σ = [.box (cS s) false, .box [] true, .rows ((ys).map I) yg 1 false])) ?_ (m := s.objs.length) ⟨0, rfl, Nat.zero_le _, .inl ⟨rfl, by kernel_rfl, by kernel_rfl⟩⟩ ?_
 rotate_left
 · omega
 rintro m5 fr σ ⟨i, h1, h2, ⟨h3, h4, rfl⟩ | ⟨ys, yg, yn, rfl, h3, h4, rfl⟩⟩ k h5
 ·
  rw [h4]; clear h4
  have hyl := ilen h3
  simp only [List.length_cons, List.length_nil] at hyl
  obtain ⟨k, rfl⟩ : ∃ k', k = k' + 60 := ⟨k - 60, by omega⟩
  refine X.seq (X.region ?_)
  refine OK.dec (((i : Nat) : Int) < ((((s.objs).map E).length : Nat) : Int)) (by kernel_rfl) (by kernel_rfl) (fun h6 => ?_) (fun h6 => ?_)
  rotate_left
  ·
   refine OK.nil ?_
   refine X.seq (X.condF (by kernel_rfl) ?_)
   refine X.exit ?_
   show X _ _ _ _ _ _ _ _ _
   refine X.seq (X.region (OK.seg 2 (by kernel_rfl) (OK.nil ?_)))
   refine X.ret ?_
   exact ⟨rfl, giv (r := .list [] false) (by kernel_rfl) (by exact ls_end (kind := 4) (l := []) (ys := []) h3 (by omega) rfl)⟩
  refine OK.nil ?_
  refine X.seq (X.condT (by kernel_rfl) ?_)
  refine X.skip (X.seq (X.block (X.seq (X.region (OK.seg 1 (by kernel_rfl) ?_)))))
  refine OK.val (.ro (cO ((s.objs).getD i o0)) 0) (by kernel_rfl) (fun _ => idx_map (sz := 18) (g := E) (d := o0) (xs := s.objs) (ex := false) (k := .i64) (n := ((i : Nat) : Int)) rfl Tryz.underlying22 (by kernel_rfl) (by kernel_rfl) (by kernel_rfl) (by kernel_rfl) (by omega) (by omega)) ?_
  refine OK.seg 4 (by kernel_rfl) (OK.nil ?_)
  refine X.seq (X.region (OK.seg 1 (by kernel_rfl) (OK.nil ?_)))
  refine X.seq (X.seq (X.region (OK.seg 1 (by kernel_rfl) (OK.nil ?_))))
  refine X.block (X.seq (X.seq (X.region (OK.seg 2 (by kernel_rfl) (OK.nil ?_)))))
  refine X.condF (by kernel_rfl) ?_
  refine X.region (OK.seg 2 (by kernel_rfl) (OK.nil ?_))
  refine X.condF (by kernel_rfl) ?_
  refine X.seq (X.region (OK.seg 2 (by kernel_rfl) (OK.nil ?_)))
  refine X.condT (by kernel_rfl) ?_
  refine X.region (OK.seg 2 (by kernel_rfl) ?_)
  refine OK.dec ((((s.objs).getD i o0) 3) = 9) (by kernel_rfl) (by kernel_rfl) (fun h7 => ?_) (fun h7 => ?_)
  rotate_left
  ·
   refine OK.seg 11 (by kernel_rfl) (OK.nil ?_)
   refine X.seq (X.region (OK.seg 1 (by kernel_rfl) (OK.nil ?_)))
   refine X.condF (by kernel_rfl) ?_
   refine X.skip (X.region ?_)
   refine OK.val (I ((i + 1 : Nat) : Int)) (by kernel_rfl) (fun _ => add_op (k := .i64) (a := ((i : Nat) : Int)) (b := 1) rfl (by kernel_rfl) (by kernel_rfl) (by rw [wrap64] <;> omega)) ?_
   refine OK.seg 1 (by kernel_rfl) (OK.nil ?_)
   exact ⟨([.agg (cS s), I 4, I self, .ptr 0 0, undefA, undefA, .list [] true, .list [] true, .opq, .opq, .opq, .list [] true, I 4, .bool false, .bool false, I 4, .bool false, .bool false, undefA, undefA, undefA, I 4, .bool false, undefA, undefA, undefA, .ptr 0 0, .list ((s.objs).map E) false, I ((((s.objs).map E).length : Nat) : Int), I ((i + 1 : Nat) : Int)] ++ List.replicate 38 .opq ++ [undefA] : List AV), [.box (cS s) false, .box (cO ((s.objs).getD i o0)) false], [0, 0], [[], []], by kernel_rfl, by kernel_rfl, by simp only [bS, bl_cC, bl_aC, bl_Am, bl_cD, bl_aD, bl_ADm, bl_EFm, bl_eC], by simp only [bS, bl_cC, bl_aC, bl_Am, bl_cD, bl_aD, bl_ADm, bl_EFm, bl_eC], by kernel_rfl, m5 - 1, by omega, i + 1, by omega, by omega, .inl ⟨iskip h3 (by rintro (⟨a1, a2⟩ | ⟨a1, a2⟩ | ⟨a1, a2⟩) <;> first | omega | exact absurd a2 (by assumption) | (simp only [spl, Int.toNat_natCast] at a2; omega)), by kernel_rfl, by kernel_rfl⟩⟩
  refine OK.seg 3 (by kernel_rfl) ?_
  refine OK.ndec ((((s.objs).getD i o0) 13) = 2) (by kernel_rfl) (by kernel_rfl) (fun h8 => ?_) (fun h8 => ?_)
  rotate_left
  ·
   refine OK.seg 7 (by kernel_rfl) (OK.nil ?_)
   refine X.seq (X.region (OK.seg 1 (by kernel_rfl) (OK.nil ?_)))
   refine X.condF (by kernel_rfl) ?_
   refine X.skip (X.region ?_)
   refine OK.val (I ((i + 1 : Nat) : Int)) (by kernel_rfl) (fun _ => add_op (k := .i64) (a := ((i : Nat) : Int)) (b := 1) rfl (by kernel_rfl) (by kernel_rfl) (by rw [wrap64] <;> omega)) ?_
   refine OK.seg 1 (by kernel_rfl) (OK.nil ?_)
   exact ⟨([.agg (cS s), I 4, I self, .ptr 0 0, undefA, undefA, .list [] true, .list [] true, .opq, .opq, .opq, .list [] true, I 4, .bool false, .bool false, I 4, .bool false, .bool false, undefA, undefA, undefA, I 4, .bool false, undefA, undefA, undefA, .ptr 0 0, .list ((s.objs).map E) false, I ((((s.objs).map E).length : Nat) : Int), I ((i + 1 : Nat) : Int)] ++ List.replicate 38 .opq ++ [undefA] : List AV), [.box (cS s) false, .box (cO ((s.objs).getD i o0)) false], [0, 0], [[], []], by kernel_rfl, by kernel_rfl, by simp only [bS, bl_cC, bl_aC, bl_Am, bl_cD, bl_aD, bl_ADm, bl_EFm, bl_eC], by simp only [bS, bl_cC, bl_aC, bl_Am, bl_cD, bl_aD, bl_ADm, bl_EFm, bl_eC], by kernel_rfl, m5 - 1, by omega, i + 1, by omega, by omega, .inl ⟨iskip h3 (by rintro (⟨a1, a2⟩ | ⟨a1, a2⟩ | ⟨a1, a2⟩) <;> first | omega | exact absurd a2 (by assumption) | (simp only [spl, Int.toNat_natCast] at a2; omega)), by kernel_rfl, by kernel_rfl⟩⟩
  refine OK.seg 4 (by kernel_rfl) ?_
  refine OK.ndec (((i : Nat) : Int) = self) (by kernel_rfl) (by kernel_rfl) (fun h9 => ?_) (fun h9 => ?_)
  rotate_left
  ·
   refine OK.seg 2 (by kernel_rfl) (OK.nil ?_)
   refine X.seq (X.region (OK.seg 1 (by kernel_rfl) (OK.nil ?_)))
   refine X.condF (by kernel_rfl) ?_
   refine X.skip (X.region ?_)
   refine OK.val (I ((i + 1 : Nat) : Int)) (by kernel_rfl) (fun _ => add_op (k := .i64) (a := ((i : Nat) : Int)) (b := 1) rfl (by kernel_rfl) (by kernel_rfl) (by rw [wrap64] <;> omega)) ?_
   refine OK.seg 1 (by kernel_rfl) (OK.nil ?_)
   exact ⟨([.agg (cS s), I 4, I self, .ptr 0 0, undefA, undefA, .list [] true, .list [] true, .opq, .opq, .opq, .list [] true, I 4, .bool false, .bool false, I 4, .bool false, .bool false, undefA, undefA, undefA, I 4, .bool false, undefA, undefA, undefA, .ptr 0 0, .list ((s.objs).map E) false, I ((((s.objs).map E).length : Nat) : Int), I ((i + 1 : Nat) : Int)] ++ List.replicate 38 .opq ++ [undefA] : List AV), [.box (cS s) false, .box (cO ((s.objs).getD i o0)) false], [0, 0], [[], []], by kernel_rfl, by kernel_rfl, by simp only [bS, bl_cC, bl_aC, bl_Am, bl_cD, bl_aD, bl_ADm, bl_EFm, bl_eC], by simp only [bS, bl_cC, bl_aC, bl_Am, bl_cD, bl_aD, bl_ADm, bl_EFm, bl_eC], by kernel_rfl, m5 - 1, by omega, i + 1, by omega, by omega, .inl ⟨iskip h3 (by rintro (⟨a1, a2⟩ | ⟨a1, a2⟩ | ⟨a1, a2⟩) <;> first | omega | exact absurd a2 (by assumption) | (simp only [spl, Int.toNat_natCast] at a2; omega)), by kernel_rfl, by kernel_rfl⟩⟩
  refine OK.seg 2 (by kernel_rfl) (OK.nil ?_)
  refine X.seq (X.region (OK.seg 1 (by kernel_rfl) (OK.nil ?_)))
  refine X.condT (by kernel_rfl) ?_
  refine X.region (OK.seg 2 (by kernel_rfl) ?_)
  refine OK.val (I ((i + 1 : Nat) : Int)) (by kernel_rfl) (fun _ => add_op (k := .i64) (a := ((i : Nat) : Int)) (b := 1) rfl (by kernel_rfl) (by kernel_rfl) (by rw [wrap64] <;> omega)) ?_
  refine OK.seg 3 (by kernel_rfl) (OK.nil ?_)
  refine X.region ?_
  refine OK.val (I ((i + 1 : Nat) : Int)) (by kernel_rfl) (fun _ => add_op (k := .i64) (a := ((i : Nat) : Int)) (b := 1) rfl (by kernel_rfl) (by kernel_rfl) (by rw [wrap64] <;> omega)) ?_
  refine OK.seg 1 (by kernel_rfl) (OK.nil ?_)
  exact ⟨([.agg (cS s), I 4, I self, .ptr 0 0, undefA, undefA, .list [] true, .sl 2 0 0 1, .opq, .opq, .opq, .list [] true, I 4, .bool false, .bool false, I 4, .bool false, .bool false, undefA, undefA, undefA, I 4, .bool false, undefA, undefA, undefA, .ptr 0 0, .list ((s.objs).map E) false, I ((((s.objs).map E).length : Nat) : Int), I ((i + 1 : Nat) : Int)] ++ List.replicate 38 .opq ++ [undefA] : List AV), [.box (cS s) false, .box (cO ((s.objs).getD i o0)) false, .rows (([((i + 1 : Nat) : Int)]).map I) 0 1 false], [0, 2, 0], [[], [], []], by kernel_rfl, by kernel_rfl, by simp only [bS, bl_cC, bl_aC, bl_Am, bl_cD, bl_aD, bl_ADm, bl_EFm, bl_eC], by simp only [bS, bl_cC, bl_aC, bl_Am, bl_cD, bl_aD, bl_ADm, bl_EFm, bl_eC], by kernel_rfl, m5 - 1, by omega, i + 1, by omega, by omega, .inr ⟨[((i + 1 : Nat) : Int)], 0, 1, rfl, iadd h3 (by first | exact .inl ⟨by omega, by assumption⟩ | exact .inr (.inl ⟨by omega, by simp only [spl, Int.toNat_natCast]; omega⟩) | exact .inr (.inr ⟨by omega, by assumption⟩)), by kernel_rfl, by kernel_rfl⟩⟩
 ·
  rw [h4]; clear h4
  have hyl := ilen h3
  simp only [List.length_cons, List.length_nil] at hyl
  obtain ⟨k, rfl⟩ : ∃ k', k = k' + 60 := ⟨k - 60, by omega⟩
  refine X.seq (X.region ?_)
  refine OK.dec (((i : Nat) : Int) < ((((s.objs).map E).length : Nat) : Int)) (by kernel_rfl) (by kernel_rfl) (fun h10 => ?_) (fun h10 => ?_)
  rotate_left
  ·
   refine OK.nil ?_
   refine X.seq (X.condF (by kernel_rfl) ?_)
   refine X.exit ?_
   show X _ _ _ _ _ _ _ _ _
   refine X.seq (X.region (OK.seg 2 (by kernel_rfl) (OK.nil ?_)))
   refine X.ret ?_
   exact ⟨rfl, giv (gives_sl (g := I) (fun _ _ => rfl) (fun _ => rfl) (b := 2) (n := yg) (ys := ys) (sz := 1) (by kernel_rfl) (by kernel_rfl)) (by exact ls_end (kind := 4) (l := []) h3 (by omega) rfl)⟩
  refine OK.nil ?_
  refine X.seq (X.condT (by kernel_rfl) ?_)
  refine X.skip (X.seq (X.block (X.seq (X.region (OK.seg 1 (by kernel_rfl) ?_)))))
  refine OK.val (.ro (cO ((s.objs).getD i o0)) 0) (by kernel_rfl) (fun _ => idx_map (sz := 18) (g := E) (d := o0) (xs := s.objs) (ex := false) (k := .i64) (n := ((i : Nat) : Int)) rfl Tryz.underlying22 (by kernel_rfl) (by kernel_rfl) (by kernel_rfl) (by kernel_rfl) (by omega) (by omega)) ?_
  refine OK.seg 4 (by kernel_rfl) (OK.nil ?_)
  refine X.seq (X.region (OK.seg 1 (by kernel_rfl) (OK.nil ?_)))
  refine X.seq (X.seq (X.region (OK.seg 1 (by kernel_rfl) (OK.nil ?_))))
  refine X.block (X.seq (X.seq (X.region (OK.seg 2 (by kernel_rfl) (OK.nil ?_)))))
  refine X.condF (by kernel_rfl) ?_
  refine X.region (OK.seg 2 (by kernel_rfl) (OK.nil ?_))
  refine X.condF (by kernel_rfl) ?_
  refine X.seq (X.region (OK.seg 2 (by kernel_rfl) (OK.nil ?_)))
  refine X.condT (by kernel_rfl) ?_
  refine X.region (OK.seg 2 (by kernel_rfl) ?_)
  refine OK.dec ((((s.objs).getD i o0) 3) = 9) (by kernel_rfl) (by kernel_rfl) (fun h11 => ?_) (fun h11 => ?_)
  rotate_left
  ·
   refine OK.seg 11 (by kernel_rfl) (OK.nil ?_)
   refine X.seq (X.region (OK.seg 1 (by kernel_rfl) (OK.nil ?_)))
   refine X.condF (by kernel_rfl) ?_
   refine X.skip (X.region ?_)
   refine OK.val (I ((i + 1 : Nat) : Int)) (by kernel_rfl) (fun _ => add_op (k := .i64) (a := ((i : Nat) : Int)) (b := 1) rfl (by kernel_rfl) (by kernel_rfl) (by rw [wrap64] <;> omega)) ?_
   refine OK.seg 1 (by kernel_rfl) (OK.nil ?_)
   exact ⟨([.agg (cS s), I 4, I self, .ptr 0 0, undefA, undefA, .list [] true, .sl 2 yg 0 ys.length, .opq, .opq, .opq, .list [] true, I 4, .bool false, .bool false, I 4, .bool false, .bool false, undefA, undefA, undefA, I 4, .bool false, undefA, undefA, undefA, .ptr 0 0, .list ((s.objs).map E) false, I ((((s.objs).map E).length : Nat) : Int), I ((i + 1 : Nat) : Int)] ++ List.replicate 38 .opq ++ [undefA] : List AV), [.box (cS s) false, .box [] true, .rows ((ys).map I) yg 1 false, .box (cO ((s.objs).getD i o0)) false], [0, 2, 0], [[], [], [], []], by kernel_rfl, by kernel_rfl, by simp only [bS, bl_cC, bl_aC, bl_Am, bl_cD, bl_aD, bl_ADm, bl_EFm, bl_eC], by simp only [bS, bl_cC, bl_aC, bl_Am, bl_cD, bl_aD, bl_ADm, bl_EFm, bl_eC], by kernel_rfl, m5 - 1, by omega, i + 1, by omega, by omega, .inr ⟨ys, yg, ys.length, rfl, iskip h3 (by rintro (⟨a1, a2⟩ | ⟨a1, a2⟩ | ⟨a1, a2⟩) <;> first | omega | exact absurd a2 (by assumption) | (simp only [spl, Int.toNat_natCast] at a2; omega)), by kernel_rfl, by kernel_rfl⟩⟩
  refine OK.seg 3 (by kernel_rfl) ?_
  refine OK.ndec ((((s.objs).getD i o0) 13) = 2) (by kernel_rfl) (by kernel_rfl) (fun h12 => ?_) (fun h12 => ?_)
  rotate_left
  ·
   refine OK.seg 7 (by kernel_rfl) (OK.nil ?_)
   refine X.seq (X.region (OK.seg 1 (by kernel_rfl) (OK.nil ?_)))
   refine X.condF (by kernel_rfl) ?_
   refine X.skip (X.region ?_)
   refine OK.val (I ((i + 1 : Nat) : Int)) (by kernel_rfl) (fun _ => add_op (k := .i64) (a := ((i : Nat) : Int)) (b := 1) rfl (by kernel_rfl) (by kernel_rfl) (by rw [wrap64] <;> omega)) ?_
   refine OK.seg 1 (by kernel_rfl) (OK.nil ?_)
   exact ⟨([.agg (cS s), I 4, I self, .ptr 0 0, undefA, undefA, .list [] true, .sl 2 yg 0 ys.length, .opq, .opq, .opq, .list [] true, I 4, .bool false, .bool false, I 4, .bool false, .bool false, undefA, undefA, undefA, I 4, .bool false, undefA, undefA, undefA, .ptr 0 0, .list ((s.objs).map E) false, I ((((s.objs).map E).length : Nat) : Int), I ((i + 1 : Nat) : Int)] ++ List.replicate 38 .opq ++ [undefA] : List AV), [.box (cS s) false, .box [] true, .rows ((ys).map I) yg 1 false, .box (cO ((s.objs).getD i o0)) false], [0, 2, 0], [[], [], [], []], by kernel_rfl, by kernel_rfl, by simp only [bS, bl_cC, bl_aC, bl_Am, bl_cD, bl_aD, bl_ADm, bl_EFm, bl_eC], by simp only [bS, bl_cC, bl_aC, bl_Am, bl_cD, bl_aD, bl_ADm, bl_EFm, bl_eC], by kernel_rfl, m5 - 1, by omega, i + 1, by omega, by omega, .inr ⟨ys, yg, ys.length, rfl, iskip h3 (by rintro (⟨a1, a2⟩ | ⟨a1, a2⟩ | ⟨a1, a2⟩) <;> first | omega | exact absurd a2 (by assumption) | (simp only [spl, Int.toNat_natCast] at a2; omega)), by kernel_rfl, by kernel_rfl⟩⟩
  refine OK.seg 4 (by kernel_rfl) ?_
  refine OK.ndec (((i : Nat) : Int) = self) (by kernel_rfl) (by kernel_rfl) (fun h13 => ?_) (fun h13 => ?_)
  rotate_left
  ·
   refine OK.seg 2 (by kernel_rfl) (OK.nil ?_)
   refine X.seq (X.region (OK.seg 1 (by kernel_rfl) (OK.nil ?_)))
   refine X.condF (by kernel_rfl) ?_
   refine X.skip (X.region ?_)
   refine OK.val (I ((i + 1 : Nat) : Int)) (by kernel_rfl) (fun _ => add_op (k := .i64) (a := ((i : Nat) : Int)) (b := 1) rfl (by kernel_rfl) (by kernel_rfl) (by rw [wrap64] <;> omega)) ?_
   refine OK.seg 1 (by kernel_rfl) (OK.nil ?_)
   exact ⟨([.agg (cS s), I 4, I self, .ptr 0 0, undefA, undefA, .list [] true, .sl 2 yg 0 ys.length, .opq, .opq, .opq, .list [] true, I 4, .bool false, .bool false, I 4, .bool false, .bool false, undefA, undefA, undefA, I 4, .bool false, undefA, undefA, undefA, .ptr 0 0, .list ((s.objs).map E) false, I ((((s.objs).map E).length : Nat) : Int), I ((i + 1 : Nat) : Int)] ++ List.replicate 38 .opq ++ [undefA] : List AV), [.box (cS s) false, .box [] true, .rows ((ys).map I) yg 1 false, .box (cO ((s.objs).getD i o0)) false], [0, 2, 0], [[], [], [], []], by kernel_rfl, by kernel_rfl, by simp only [bS, bl_cC, bl_aC, bl_Am, bl_cD, bl_aD, bl_ADm, bl_EFm, bl_eC], by simp only [bS, bl_cC, bl_aC, bl_Am, bl_cD, bl_aD, bl_ADm, bl_EFm, bl_eC], by kernel_rfl, m5 - 1, by omega, i + 1, by omega, by omega, .inr ⟨ys, yg, ys.length, rfl, iskip h3 (by rintro (⟨a1, a2⟩ | ⟨a1, a2⟩ | ⟨a1, a2⟩) <;> first | omega | exact absurd a2 (by assumption) | (simp only [spl, Int.toNat_natCast] at a2; omega)), by kernel_rfl, by kernel_rfl⟩⟩
  refine OK.seg 2 (by kernel_rfl) (OK.nil ?_)
  refine X.seq (X.region (OK.seg 1 (by kernel_rfl) (OK.nil ?_)))
  refine X.condT (by kernel_rfl) ?_
  refine X.region (OK.seg 2 (by kernel_rfl) ?_)
  refine OK.val (I ((i + 1 : Nat) : Int)) (by kernel_rfl) (fun _ => add_op (k := .i64) (a := ((i : Nat) : Int)) (b := 1) rfl (by kernel_rfl) (by kernel_rfl) (by rw [wrap64] <;> omega)) ?_
  refine OK.seg 1 (by kernel_rfl) ?_
  refine OK.opS (.sl 2 (yg + 1) 0 (ys.length + 1)) [.box (cS s) false, .box [] true, .rows (((ys) ++ [((i + 1 : Nat) : Int)]).map I) (yg + 1) 1 false, .box (cO ((s.objs).getD i o0)) false] (by kernel_rfl) (ap_sl (b := 2) (n := yg) (ex := true) (g := I) (ys := ys) (v := ((i + 1 : Nat) : Int)) rfl rfl rfl rfl Tryz.underlying23 Tryz.underlying23 (by kernel_rfl) (by_ := 8) (by kernel_rfl) (z := I 0) (by kernel_rfl) rfl (by omega) (fun _ => rfl) (fun _ => rfl) (by kernel_rfl) (by kernel_rfl) (Nat.zero_le _) (ap_bd (by omega)) (by kernel_rfl)) ?_
  refine OK.seg 1 (by kernel_rfl) (OK.nil ?_)
  refine X.region ?_
  refine OK.val (I ((i + 1 : Nat) : Int)) (by kernel_rfl) (fun _ => add_op (k := .i64) (a := ((i : Nat) : Int)) (b := 1) rfl (by kernel_rfl) (by kernel_rfl) (by rw [wrap64] <;> omega)) ?_
  refine OK.seg 1 (by kernel_rfl) (OK.nil ?_)
  exact ⟨([.agg (cS s), I 4, I self, .ptr 0 0, undefA, undefA, .list [] true, .sl 2 (yg + 1) 0 (ys.length + 1), .opq, .opq, .opq, .list [] true, I 4, .bool false, .bool false, I 4, .bool false, .bool false, undefA, undefA, undefA, I 4, .bool false, undefA, undefA, undefA, .ptr 0 0, .list ((s.objs).map E) false, I ((((s.objs).map E).length : Nat) : Int), I ((i + 1 : Nat) : Int)] ++ List.replicate 38 .opq ++ [undefA] : List AV), [.box (cS s) false, .box [] true, .rows (((ys) ++ [((i + 1 : Nat) : Int)]).map I) (yg + 1) 1 false, .box (cO ((s.objs).getD i o0)) false], [0, 2, 0], [[], [], [], []], by kernel_rfl, by kernel_rfl, by simp only [bS, bl_cC, bl_aC, bl_Am, bl_cD, bl_aD, bl_ADm, bl_EFm, bl_eC], by simp only [bS, bl_cC, bl_aC, bl_Am, bl_cD, bl_aD, bl_ADm, bl_EFm, bl_eC], by kernel_rfl, m5 - 1, by omega, i + 1, by omega, by omega, .inr ⟨ys ++ [((i + 1 : Nat) : Int)], yg + 1, ys.length + 1, by simp, iadd h3 (by first | exact .inl ⟨by omega, by assumption⟩ | exact .inr (.inl ⟨by omega, by simp only [spl, Int.toNat_natCast]; omega⟩) | exact .inr (.inr ⟨by omega, by assumption⟩)), by kernel_rfl, by kernel_rfl⟩⟩
set_option maxHeartbeats 4000000 in
theorem rList_5 : ∀ k (s : St) (self : Int) σ, wf s → rightS s → 200000 ≤ k → readW (callW Tryz.prog (exec Tryz.prog cfg k)) 120 [.agg (cS s), I 5, I self] σ = some (.list ((lsA s 5 self).map I) false, σ) := by
 intro k s self σ hyp0 hyp1 hk
 obtain ⟨k, rfl⟩ : ∃ k', k = k' + 60 := ⟨k - 60, by omega⟩
 have hw1 := hyp0.1
 have hw2 := hyp0.2
 have hlm : ((s.objs).map E).length = s.objs.length := List.length_map _
 have hRS := hyp1
 have hok := (right_of hyp1).2.1
 have hln := (right_of hyp1).1
 refine reader_of Tryz.func120 rfl (by simp only [AV.frees, AV.free, fr_I, fr_E, fr_cO, fr_cL, fr_cS, Bool.and_self]) ?_
 refine X.seq (X.region (OK.seg 2 (by kernel_rfl) (OK.nil ?_)))
 refine X.seq (X.region (OK.seg 2 (by kernel_rfl) (OK.nil ?_)))
 refine X.seq (X.seq (X.region (OK.seg 6 (by kernel_rfl) (OK.nil ?_))))
 refine X.condF (by kernel_rfl) ?_
 refine X.skip (X.seq (X.seq (X.region (OK.seg 2 (by kernel_rfl) (OK.nil ?_)))))
 refine X.condF (by kernel_rfl) ?_
 refine X.skip (X.seq (X.seq (X.region (OK.seg 4 (by kernel_rfl) (OK.nil ?_)))))
 refine X.block ?_
 refine X.rounds3 (K := 900) [8, 9, 10, 30, 31, 32, 33, 34, 35, 36, 37, 38, 39, 40, 41, 42, 43, 44, 45, 46, 47, 48, 49, 50, 51, 52, 53, 54, 55, 56, 57, 58, 59, 60, 61, 62, 63, 64, 65, 66, 67] (by kernel_rfl) rfl (fun m fr σ => ∃ i : Nat, m = s.objs.length - i ∧ i ≤ s.objs.length ∧ (([] ++ ixs 1 (lsP s 5 self) i = [] ∧ clearA' [8, 9, 10, 30, 31, 32, 33, 34, 35, 36, 37, 38, 39, 40, 41, 42, 43, 44, 45, 46, 47, 48, 49, 50, 51, 52, 53, 54, 55, 56, 57, 58, 59, 60, 61, 62, 63, 64, 65, 66, 67] fr = ([.agg (cS s), I 5, I self, .ptr 0 0, undefA, undefA, .list [] true, .list [] true, .opq, .opq, .opq, .list [] true, I 5, .bool false, .bool false, I 5, .bool false, .bool false, undefA, undefA, undefA, I 5, .bool false, undefA, undefA, undefA, .ptr 0 0, .list ((s.objs).map E) false, I ((((s.objs).map E).length : Nat) : Int), I ((i : Nat) : Int)] ++ List.replicate 38 .opq ++ [undefA] : List AV) ∧ σ = [.box (cS s) false]) ∨ ∃ (ys : List Int) (yg yn : Nat), yn = ys.length ∧ [] ++ ixs 1 (lsP s 5 self) i = ys ∧ clearA' [8, 9, 10, 30, 31, 32, 33, 34, 35, 36, 37, 38, 39, 40, 41, 42, 43, 44, 45, 46, 47, 48, 49, 50, 51, 52, 53, 54, 55, 56, 57, 58, 59, 60, 61, 62, 63, 64, 65, 66, 67] fr = ([.agg (cS s), I 5, I self, .ptr 0 0, undefA, undefA, .list [] true, .sl 2 yg 0 yn, .opq, .opq, .opq, .list [] true, I 5, .bool false, .bool false, I 5, .bool false, .bool false, undefA, undefA, undefA, I 5, .bool false, undefA, undefA, undefA, .ptr 0 0, .list ((s.objs).map E) false, I ((((s.objs).map E).length : Nat) : Int), I ((i : Nat) : Int)] ++ List.replicate 38 .opq ++ [undefA] : List AV) ∧ σ = [.box (cS s) false, .box [] true, .rows ((ys).map I) yg 1 false])) ?_ (m := s.objs.length) ⟨0, rfl, Nat.zero_le _, .inl ⟨rfl, by kernel_rfl, by kernel_rfl⟩⟩ ?_
 rotate_left
 · omega
 rintro m5 fr σ ⟨i, h1, h2, ⟨h3, h4, rfl⟩ | ⟨ys, yg, yn, rfl, h3, h4, rfl⟩⟩ k h5
 ·
  rw [h4]; clear h4
  have hyl := ilen h3
  simp only [List.length_cons, List.length_nil] at hyl
  obtain ⟨k, rfl⟩ : ∃ k', k = k' + 60 := ⟨k - 60, by omega⟩
  refine X.seq (X.region ?_)
  refine OK.dec (((i : Nat) : Int) < ((((s.objs).map E).length : Nat) : Int)) (by kernel_rfl) (by kernel_rfl) (fun h6 => ?_) (fun h6 => ?_)
  rotate_left
  ·
   refine OK.nil ?_
   refine X.seq (X.condF (by kernel_rfl) ?_)
   refine X.exit ?_
   show X _ _ _ _ _ _ _ _ _
   refine X.seq (X.region (OK.seg 2 (by kernel_rfl) (OK.nil ?_)))
   refine X.ret ?_
   exact ⟨rfl, giv (r := .list [] false) (by kernel_rfl) (by exact ls_end (kind := 5) (l := []) (ys := []) h3 (by omega) rfl)⟩
  refine OK.nil ?_
  refine X.seq (X.condT (by kernel_rfl) ?_)
  refine X.skip (X.seq (X.block (X.seq (X.region (OK.seg 1 (by kernel_rfl) ?_)))))
  refine OK.val (.ro (cO ((s.objs).getD i o0)) 0) (by kernel_rfl) (fun _ => idx_map (sz := 18) (g := E) (d := o0) (xs := s.objs) (ex := false) (k := .i64) (n := ((i : Nat) : Int)) rfl Tryz.underlying22 (by kernel_rfl) (by kernel_rfl) (by kernel_rfl) (by kernel_rfl) (by omega) (by omega)) ?_
  refine OK.seg 4 (by kernel_rfl) (OK.nil ?_)
  refine X.seq (X.region (OK.seg 1 (by kernel_rfl) (OK.nil ?_)))
  refine X.seq (X.seq (X.region (OK.seg 1 (by kernel_rfl) (OK.nil ?_))))
  refine X.block (X.seq (X.seq (X.region (OK.seg 2 (by kernel_rfl) (OK.nil ?_)))))
  refine X.condF (by kernel_rfl) ?_
  refine X.region (OK.seg 2 (by kernel_rfl) (OK.nil ?_))
  refine X.condF (by kernel_rfl) ?_
  refine X.seq (X.region (OK.seg 2 (by kernel_rfl) (OK.nil ?_)))
  refine X.condF (by kernel_rfl) ?_
  refine X.seq (X.region (OK.seg 2 (by kernel_rfl) (OK.nil ?_)))
  refine X.condT (by kernel_rfl) ?_
  refine X.region (OK.seg 2 (by kernel_rfl) ?_)
  refine OK.dec ((((s.objs).getD i o0) 3) = 8) (by kernel_rfl) (by kernel_rfl) (fun h7 => ?_) (fun h7 => ?_)
  rotate_left
  ·
   refine OK.seg 1 (by kernel_rfl) (OK.nil ?_)
   refine X.seq (X.region (OK.seg 1 (by kernel_rfl) (OK.nil ?_)))
   refine X.condF (by kernel_rfl) ?_
   refine X.skip (X.region ?_)
   refine OK.val (I ((i + 1 : Nat) : Int)) (by kernel_rfl) (fun _ => add_op (k := .i64) (a := ((i : Nat) : Int)) (b := 1) rfl (by kernel_rfl) (by kernel_rfl) (by rw [wrap64] <;> omega)) ?_
   refine OK.seg 1 (by kernel_rfl) (OK.nil ?_)
   exact ⟨([.agg (cS s), I 5, I self, .ptr 0 0, undefA, undefA, .list [] true, .list [] true, .opq, .opq, .opq, .list [] true, I 5, .bool false, .bool false, I 5, .bool false, .bool false, undefA, undefA, undefA, I 5, .bool false, undefA, undefA, undefA, .ptr 0 0, .list ((s.objs).map E) false, I ((((s.objs).map E).length : Nat) : Int), I ((i + 1 : Nat) : Int)] ++ List.replicate 38 .opq ++ [undefA] : List AV), [.box (cS s) false, .box (cO ((s.objs).getD i o0)) false], [0, 0], [[], []], by kernel_rfl, by kernel_rfl, by simp only [bS, bl_cC, bl_aC, bl_Am, bl_cD, bl_aD, bl_ADm, bl_EFm, bl_eC], by simp only [bS, bl_cC, bl_aC, bl_Am, bl_cD, bl_aD, bl_ADm, bl_EFm, bl_eC], by kernel_rfl, m5 - 1, by omega, i + 1, by omega, by omega, .inl ⟨iskip h3 (by rintro (⟨a1, a2⟩ | ⟨a1, a2⟩ | ⟨a1, a2⟩) <;> first | omega | exact absurd a2 (by assumption) | (simp only [spl, Int.toNat_natCast] at a2; omega)), by kernel_rfl, by kernel_rfl⟩⟩
  refine OK.seg 1 (by kernel_rfl) (OK.nil ?_)
  refine X.seq (X.region (OK.seg 1 (by kernel_rfl) (OK.nil ?_)))
  refine X.condT (by kernel_rfl) ?_
  refine X.region (OK.seg 2 (by kernel_rfl) ?_)
  refine OK.val (I ((i + 1 : Nat) : Int)) (by kernel_rfl) (fun _ => add_op (k := .i64) (a := ((i : Nat) : Int)) (b := 1) rfl (by kernel_rfl) (by kernel_rfl) (by rw [wrap64] <;> omega)) ?_
  refine OK.seg 3 (by kernel_rfl) (OK.nil ?_)
  refine X.region ?_
  refine OK.val (I ((i + 1 : Nat) : Int)) (by kernel_rfl) (fun _ => add_op (k := .i64) (a := ((i : Nat) : Int)) (b := 1) rfl (by kernel_rfl) (by kernel_rfl) (by rw [wrap64] <;> omega)) ?_
  refine OK.seg 1 (by kernel_rfl) (OK.nil ?_)
  exact ⟨([.agg (cS s), I 5, I self, .ptr 0 0, undefA, undefA, .list [] true, .sl 2 0 0 1, .opq, .opq, .opq, .list [] true, I 5, .bool false, .bool false, I 5, .bool false, .bool false, undefA, undefA, undefA, I 5, .bool false, undefA, undefA, undefA, .ptr 0 0, .list ((s.objs).map E) false, I ((((s.objs).map E).length : Nat) : Int), I ((i + 1 : Nat) : Int)] ++ List.replicate 38 .opq ++ [undefA] : List AV), [.box (cS s) false, .box (cO ((s.objs).getD i o0)) false, .rows (([((i + 1 : Nat) : Int)]).map I) 0 1 false], [0, 2, 0], [[], [], []], by kernel_rfl, by kernel_rfl, by simp only [bS, bl_cC, bl_aC, bl_Am, bl_cD, bl_aD, bl_ADm, bl_EFm, bl_eC], by simp only [bS, bl_cC, bl_aC, bl_Am, bl_cD, bl_aD, bl_ADm, bl_EFm, bl_eC], by kernel_rfl, m5 - 1, by omega, i + 1, by omega, by omega, .inr ⟨[((i + 1 : Nat) : Int)], 0, 1, rfl, iadd h3 (by first | exact .inl ⟨by omega, by assumption⟩ | exact .inr (.inl ⟨by omega, by simp only [spl, Int.toNat_natCast]; omega⟩) | exact .inr (.inr ⟨by omega, by assumption⟩)), by kernel_rfl, by kernel_rfl⟩⟩
 ·
  rw [h4]; clear h4
  have hyl := ilen h3
  simp only [List.length_cons, List.length_nil] at hyl
  obtain ⟨k, rfl⟩ : ∃ k', k = k' + 60 := ⟨k - 60, by omega⟩
  refine X.seq (X.region ?_)
  refine OK.dec (((i : Nat) : Int) < ((((s.objs).map E).length : Nat) : Int)) (by kernel_rfl) (by kernel_rfl) (fun h8 => ?_) (fun h8 => ?_)
  rotate_left
  ·
   refine OK.nil ?_
   refine X.seq (X.condF (by kernel_rfl) ?_)
   refine X.exit ?_
   show X _ _ _ _ _ _ _ _ _
   refine X.seq (X.region (OK.seg 2 (by kernel_rfl) (OK.nil ?_)))
   refine X.ret ?_
   exact ⟨rfl, giv (gives_sl (g := I) (fun _ _ => rfl) (fun _ => rfl) (b := 2) (n := yg) (ys := ys) (sz := 1) (by kernel_rfl) (by kernel_rfl)) (by exact ls_end (kind := 5) (l := []) h3 (by omega) rfl)⟩
  refine OK.nil ?_
  refine X.seq (X.condT (by kernel_rfl) ?_)
  refine X.skip (X.seq (X.block (X.seq (X.region (OK.seg 1 (by kernel_rfl) ?_)))))
  refine OK.val (.ro (cO ((s.objs).getD i o0)) 0) (by kernel_rfl) (fun _ => idx_map (sz := 18) (g := E) (d := o0) (xs := s.objs) (ex := false) (k := .i64) (n := ((i : Nat) : Int)) rfl Tryz.underlying22 (by kernel_rfl) (by kernel_rfl) (by kernel_rfl) (by kernel_rfl) (by omega) (by omega)) ?_
  refine OK.seg 4 (by kernel_rfl) (OK.nil ?_)
  refine X.seq (X.region (OK.seg 1 (by kernel_rfl) (OK.nil ?_)))
  refine X.seq (X.seq (X.region (OK.seg 1 (by kernel_rfl) (OK.nil ?_))))
  refine X.block (X.seq (X.seq (X.region (OK.seg 2 (by kernel_rfl) (OK.nil ?_)))))
  refine X.condF (by kernel_rfl) ?_
  refine X.region (OK.seg 2 (by kernel_rfl) (OK.nil ?_))
  refine X.condF (by kernel_rfl) ?_
  refine X.seq (X.region (OK.seg 2 (by kernel_rfl) (OK.nil ?_)))
  refine X.condF (by kernel_rfl) ?_
  refine X.seq (X.region (OK.seg 2 (by kernel_rfl) (OK.nil ?_)))
  refine X.condT (by kernel_rfl) ?_
  refine X.region (OK.seg 2 (by kernel_rfl) ?_)
  refine OK.dec ((((s.objs).getD i o0) 3) = 8) (by kernel_rfl) (by kernel_rfl) (fun h9 => ?_) (fun h9 => ?_)
  rotate_left
  ·
   refine OK.seg 1 (by kernel_rfl) (OK.nil ?_)
   refine X.seq (X.region (OK.seg 1 (by kernel_rfl) (OK.nil ?_)))
   refine X.condF (by kernel_rfl) ?_
   refine X.skip (X.region ?_)
   refine OK.val (I ((i + 1 : Nat) : Int)) (by kernel_rfl) (fun _ => add_op (k := .i64) (a := ((i : Nat) : Int)) (b := 1) rfl (by kernel_rfl) (by kernel_rfl) (by rw [wrap64] <;> omega)) ?_
   refine OK.seg 1 (by kernel_rfl) (OK.nil ?_)
   exact ⟨([.agg (cS s), I 5, I self, .ptr 0 0, undefA, undefA, .list [] true, .sl 2 yg 0 ys.length, .opq, .opq, .opq, .list [] true, I 5, .bool false, .bool false, I 5, .bool false, .bool false, undefA, undefA, undefA, I 5, .bool false, undefA, undefA, undefA, .ptr 0 0, .list ((s.objs).map E) false, I ((((s.objs).map E).length : Nat) : Int), I ((i + 1 : Nat) : Int)] ++ List.replicate 38 .opq ++ [undefA] : List AV), [.box (cS s) false, .box [] true, .rows ((ys).map I) yg 1 false, .box (cO ((s.objs).getD i o0)) false], [0, 2, 0], [[], [], [], []], by kernel_rfl, by kernel_rfl, by simp only [bS, bl_cC, bl_aC, bl_Am, bl_cD, bl_aD, bl_ADm, bl_EFm, bl_eC], by simp only [bS, bl_cC, bl_aC, bl_Am, bl_cD, bl_aD, bl_ADm, bl_EFm, bl_eC], by kernel_rfl, m5 - 1, by omega, i + 1, by omega, by omega, .inr ⟨ys, yg, ys.length, rfl, iskip h3 (by rintro (⟨a1, a2⟩ | ⟨a1, a2⟩ | ⟨a1, a2⟩) <;> first | omega | exact absurd a2 (by assumption) | (simp only [spl, Int.toNat_natCast] at a2; omega)), by kernel_rfl, by kernel_rfl⟩⟩
  refine OK.seg 1 (by kernel_rfl) (OK.nil ?_)
  refine X.seq (X.region (OK.seg 1 (by kernel_rfl) (OK.nil ?_)))
  refine X.condT (by kernel_rfl) ?_
  refine X.region (OK.seg 2 (by kernel_rfl) ?_)
  refine OK.val (I ((i + 1 : Nat) : Int)) (by kernel_rfl) (fun _ => add_op (k := .i64) (a := ((i : Nat) : Int)) (b := 1) rfl (by kernel_rfl) (by kernel_rfl) (by rw [wrap64] <;> omega)) ?_
  refine OK.seg 1 (by kernel_rfl) ?_
  refine OK.opS (.sl 2 (yg + 1) 0 (ys.length + 1)) [.box (cS s) false, .box [] true, .rows (((ys) ++ [((i + 1 : Nat) : Int)]).map I) (yg + 1) 1 false, .box (cO ((s.objs).getD i o0)) false] (by kernel_rfl) (ap_sl (b := 2) (n := yg) (ex := true) (g := I) (ys := ys) (v := ((i + 1 : Nat) : Int)) rfl rfl rfl rfl Tryz.underlying23 Tryz.underlying23 (by kernel_rfl) (by_ := 8) (by kernel_rfl) (z := I 0) (by kernel_rfl) rfl (by omega) (fun _ => rfl) (fun _ => rfl) (by kernel_rfl) (by kernel_rfl) (Nat.zero_le _) (ap_bd (by omega)) (by kernel_rfl)) ?_
  refine OK.seg 1 (by kernel_rfl) (OK.nil ?_)
  refine X.region ?_
  refine OK.val (I ((i + 1 : Nat) : Int)) (by kernel_rfl) (fun _ => add_op (k := .i64) (a := ((i : Nat) : Int)) (b := 1) rfl (by kernel_rfl) (by kernel_rfl) (by rw [wrap64] <;> omega)) ?_
  refine OK.seg 1 (by kernel_rfl) (OK.nil ?_)
  exact ⟨([.agg (cS s), I 5, I self, .ptr 0 0, undefA, undefA, .list [] true, .sl 2 (yg + 1) 0 (ys.length + 1), .opq, .opq, .opq, .list [] true, I 5, .bool false, .bool false, I 5, .bool false, .bool false, undefA, undefA, undefA, I 5, .bool false, undefA, undefA, undefA, .ptr 0 0, .list ((s.objs).map E) false, I ((((s.objs).map E).length : Nat) : Int), I ((i + 1 : Nat) : Int)] ++ List.replicate 38 .opq ++ [undefA] : List AV), [.box (cS s) false, .box [] true, .rows (((ys) ++ [((i + 1 : Nat) : Int)]).map I) (yg + 1) 1 false, .box (cO ((s.objs).getD i o0)) false], [0, 2, 0], [[], [], [], []], by kernel_rfl, by kernel_rfl, by simp only [bS, bl_cC, bl_aC, bl_Am, bl_cD, bl_aD, bl_ADm, bl_EFm, bl_eC], by simp only [bS, bl_cC, bl_aC, bl_Am, bl_cD, bl_aD, bl_ADm, bl_EFm, bl_eC], by kernel_rfl, m5 - 1, by omega, i + 1, by omega, by omega, .inr ⟨ys ++ [((i + 1 : Nat) : Int)], yg + 1, ys.length + 1, by simp, iadd h3 (by first | exact .inl ⟨by omega, by assumption⟩ | exact .inr (.inl ⟨by omega, by simp only [spl, Int.toNat_natCast]; omega⟩) | exact .inr (.inr ⟨by omega, by assumption⟩)), by kernel_rfl, by kernel_rfl⟩⟩
set_option maxHeartbeats 4000000 in
theorem rList_kind : ∀ k (s : St) (kind self : Int) σ, wf s → rightS s → (kind < 0 ∨ kind > 5) → 200000 ≤ k → readW (callW Tryz.prog (exec Tryz.prog cfg k)) 120 [.agg (cS s), I kind, I self] σ = some (.list ((lsA s kind self).map I) false, σ) := by
 intro k s kind self σ hyp0 hyp1 hyp2 hk
 obtain ⟨k, rfl⟩ : ∃ k', k = k' + 60 := ⟨k - 60, by omega⟩
 have hw1 := hyp0.1
 have hw2 := hyp0.2
 have hlm : ((s.objs).map E).length = s.objs.length := List.length_map _
 have hRS := hyp1
 have hok := (right_of hyp1).2.1
 have hln := (right_of hyp1).1
 refine reader_of Tryz.func120 rfl (by simp only [AV.frees, AV.free, fr_I, fr_E, fr_cO, fr_cL, fr_cS, Bool.and_self]) ?_
 refine X.seq (X.region (OK.seg 2 (by kernel_rfl) (OK.nil ?_)))
 refine X.seq (X.region (OK.seg 2 (by kernel_rfl) (OK.nil ?_)))
 refine X.seq (X.seq (X.region (OK.seg 1 (by kernel_rfl) ?_)))
 refine OK.dec (kind = 2) (by kernel_rfl) (by kernel_rfl) (fun h1 => ?_) (fun h1 => ?_)
 · exfalso; omega
 refine OK.seg 2 (by kernel_rfl) ?_
 refine OK.dec (kind = 3) (by kernel_rfl) (by kernel_rfl) (fun h2 => ?_) (fun h2 => ?_)
 · exfalso; omega
 refine OK.seg 1 (by kernel_rfl) (OK.nil ?_)
 refine X.condF (by kernel_rfl) ?_
 refine X.skip (X.seq (X.seq (X.region (OK.seg 1 (by kernel_rfl) ?_))))
 refine OK.dec (kind = 0) (by kernel_rfl) (by kernel_rfl) (fun h3 => ?_) (fun h3 => ?_)
 · exfalso; omega
 refine OK.nil ?_
 refine X.condF (by kernel_rfl) ?_
 refine X.skip (X.seq (X.seq (X.region (OK.seg 4 (by kernel_rfl) (OK.nil ?_)))))
 refine X.block ?_
 refine X.rounds3 (K := 900) [8, 9, 10, 30, 31, 32, 33, 34, 35, 36, 37, 38, 39, 40, 41, 42, 43, 44, 45, 46, 47, 48, 49, 50, 51, 52, 53, 54, 55, 56, 57, 58, 59, 60, 61, 62, 63, 64, 65, 66, 67] (by kernel_rfl) rfl (fun m fr σ => ∃ i : Nat, m = s.objs.length - i ∧ i ≤ s.objs.length ∧ (([] ++ ixs 1 (lsP s kind self) i = [] ∧ clearA' [8, 9, 10, 30, 31, 32, 33, 34, 35, 36, 37, 38, 39, 40, 41, 42, 43, 44, 45, 46, 47, 48, 49, 50, 51, 52, 53, 54, 55, 56, 57, 58, 59, 60, 61, 62, 63, 64, 65, 66, 67] fr = ([.agg (cS s), I kind, I self, .ptr 0 0, undefA, undefA, .list [] true, .list [] true, .opq, .opq, .opq, .list [] true, I kind, .bool false, .bool false, I kind, .bool false, .bool false, undefA, undefA, undefA, I kind, .bool false, undefA, undefA, undefA, .ptr 0 0, .list ((s.objs).map E) false, I ((((s.objs).map E).length : Nat) : Int), I ((i : Nat) : Int)] ++ List.replicate 38 .opq ++ [undefA] : List AV) ∧ σ = [.box (cS s) false]) ∨ ∃ (ys : List Int) (yg yn : Nat), yn = ys.length ∧ [] ++ ixs 1 (lsP s kind self) i = ys ∧ clearA' [8, 9, 10, 30, 31, 32, 33, 34, 35, 36, 37, 38, 39, 40, 41, 42, 43, 44, 45, 46, 47, 48, 49, 50, 51, 52, 53, 54, 55, 56, 57, 58, 59, 60, 61, 62, 63, 64, 65, 66, 67] fr = ([.agg (cS s), I kind, I self, .ptr 0 0, undefA, undefA, .list [] true, .sl 2 yg 0 yn, .opq, .opq, .opq, .list [] true, I kind, .bool false, .bool false, I kind, .bool false, .bool false, undefA, undefA, undefA, I kind, .bool false, undefA, undefA, undefA, .ptr 0 0, .list ((s.objs).map E) false, I ((((s.objs).map E).length : Nat) : Int), I ((i : Nat) : Int)] ++ List.replicate 38 .opq ++ [undefA] : List AV) ∧ σ = [.box (cS s) false, .box [] true, .rows ((ys).map I) yg 1 false])) ?_ (m := s.objs.length) ⟨0, rfl, Nat.zero_le _, .inl ⟨rfl, by kernel_rfl, by kernel_rfl⟩⟩ ?_
 rotate_left
 · omega
 rintro m8 fr σ ⟨i, h4, h5, ⟨h6, h7, rfl⟩ | ⟨ys, yg, yn, rfl, h6, h7, rfl⟩⟩ k h8
 ·
  rw [h7]; clear h7
  have hyl := ilen h6
  simp only [List.length_cons, List.length_nil] at hyl
  obtain ⟨k, rfl⟩ : ∃ k', k = k' + 60 := ⟨k - 60, by omega⟩
  refine X.seq (X.region ?_)
  refine OK.dec (((i : Nat) : Int) < ((((s.objs).map E).length : Nat) : Int)) (by kernel_rfl) (by kernel_rfl) (fun h9 => ?_) (fun h9 => ?_)
  rotate_left
  ·
   refine OK.nil ?_
   refine X.seq (X.condF (by kernel_rfl) ?_)
   refine X.exit ?_
   show X _ _ _ _ _ _ _ _ _
   refine X.seq (X.region (OK.seg 2 (by kernel_rfl) (OK.nil ?_)))
   refine X.ret ?_
   exact ⟨rfl, giv (r := .list [] false) (by kernel_rfl) (by exact ls_end (kind := kind) (l := []) (ys := []) h6 (by omega) (lsI_o (by omega)))⟩
  refine OK.nil ?_
  refine X.seq (X.condT (by kernel_rfl) ?_)
  refine X.skip (X.seq (X.block (X.seq (X.region (OK.seg 1 (by kernel_rfl) ?_)))))
  refine OK.val (.ro (cO ((s.objs).getD i o0)) 0) (by kernel_rfl) (fun _ => idx_map (sz := 18) (g := E) (d := o0) (xs := s.objs) (ex := false) (k := .i64) (n := ((i : Nat) : Int)) rfl Tryz.underlying22 (by kernel_rfl) (by kernel_rfl) (by kernel_rfl) (by kernel_rfl) (by omega) (by omega)) ?_
  refine OK.seg 4 (by kernel_rfl) (OK.nil ?_)
  refine X.seq (X.region (OK.seg 1 (by kernel_rfl) (OK.nil ?_)))
  refine X.seq (X.seq (X.region (OK.seg 1 (by kernel_rfl) (OK.nil ?_))))
  refine X.block (X.seq (X.seq (X.region ?_)))
  refine OK.dec (kind = 1) (by kernel_rfl) (by kernel_rfl) (fun h10 => ?_) (fun h10 => ?_)
  · exfalso; omega
  refine OK.seg 1 (by kernel_rfl) (OK.nil ?_)
  refine X.condF (by kernel_rfl) ?_
  refine X.region ?_
  refine OK.dec (kind = 3) (by kernel_rfl) (by kernel_rfl) (fun h11 => ?_) (fun h11 => ?_)
  · exfalso; omega
  refine OK.seg 1 (by kernel_rfl) (OK.nil ?_)
  refine X.condF (by kernel_rfl) ?_
  refine X.seq (X.region ?_)
  refine OK.dec (kind = 4) (by kernel_rfl) (by kernel_rfl) (fun h12 => ?_) (fun h12 => ?_)
  · exfalso; omega
  refine OK.seg 1 (by kernel_rfl) (OK.nil ?_)
  refine X.condF (by kernel_rfl) ?_
  refine X.seq (X.region ?_)
  refine OK.dec (kind = 5) (by kernel_rfl) (by kernel_rfl) (fun h13 => ?_) (fun h13 => ?_)
  · exfalso; omega
  refine OK.seg 1 (by kernel_rfl) (OK.nil ?_)
  refine X.condF (by kernel_rfl) ?_
  refine X.skip (X.seq (X.region (OK.seg 1 (by kernel_rfl) (OK.nil ?_))))
  refine X.condF (by kernel_rfl) ?_
  refine X.skip (X.region ?_)
  refine OK.val (I ((i + 1 : Nat) : Int)) (by kernel_rfl) (fun _ => add_op (k := .i64) (a := ((i : Nat) : Int)) (b := 1) rfl (by kernel_rfl) (by kernel_rfl) (by rw [wrap64] <;> omega)) ?_
  refine OK.seg 1 (by kernel_rfl) (OK.nil ?_)
  exact ⟨([.agg (cS s), I kind, I self, .ptr 0 0, undefA, undefA, .list [] true, .list [] true, .opq, .opq, .opq, .list [] true, I kind, .bool false, .bool false, I kind, .bool false, .bool false, undefA, undefA, undefA, I kind, .bool false, undefA, undefA, undefA, .ptr 0 0, .list ((s.objs).map E) false, I ((((s.objs).map E).length : Nat) : Int), I ((i + 1 : Nat) : Int)] ++ List.replicate 38 .opq ++ [undefA] : List AV), [.box (cS s) false, .box (cO ((s.objs).getD i o0)) false], [0, 0], [[], []], by kernel_rfl, by kernel_rfl, by simp only [bS, bl_cC, bl_aC, bl_Am, bl_cD, bl_aD, bl_ADm, bl_EFm, bl_eC], by simp only [bS, bl_cC, bl_aC, bl_Am, bl_cD, bl_aD, bl_ADm, bl_EFm, bl_eC], by kernel_rfl, m8 - 1, by omega, i + 1, by omega, by omega, .inl ⟨iskip h6 (by rintro (⟨a1, a2⟩ | ⟨a1, a2⟩ | ⟨a1, a2⟩) <;> first | omega | exact absurd a2 (by assumption) | (simp only [spl, Int.toNat_natCast] at a2; omega)), by kernel_rfl, by kernel_rfl⟩⟩
 ·
  rw [h7]; clear h7
  have hyl := ilen h6
  simp only [List.length_cons, List.length_nil] at hyl
  obtain ⟨k, rfl⟩ : ∃ k', k = k' + 60 := ⟨k - 60, by omega⟩
  refine X.seq (X.region ?_)
  refine OK.dec (((i : Nat) : Int) < ((((s.objs).map E).length : Nat) : Int)) (by kernel_rfl) (by kernel_rfl) (fun h14 => ?_) (fun h14 => ?_)
  rotate_left
  ·
   refine OK.nil ?_
   refine X.seq (X.condF (by kernel_rfl) ?_)
   refine X.exit ?_
   show X _ _ _ _ _ _ _ _ _
   refine X.seq (X.region (OK.seg 2 (by kernel_rfl) (OK.nil ?_)))
   refine X.ret ?_
   exact ⟨rfl, giv (gives_sl (g := I) (fun _ _ => rfl) (fun _ => rfl) (b := 2) (n := yg) (ys := ys) (sz := 1) (by kernel_rfl) (by kernel_rfl)) (by exact ls_end (kind := kind) (l := []) h6 (by omega) (lsI_o (by omega)))⟩
  refine OK.nil ?_
  refine X.seq (X.condT (by kernel_rfl) ?_)
  refine X.skip (X.seq (X.block (X.seq (X.region (OK.seg 1 (by kernel_rfl) ?_)))))
  refine OK.val (.ro (cO ((s.objs).getD i o0)) 0) (by kernel_rfl) (fun _ => idx_map (sz := 18) (g := E) (d := o0) (xs := s.objs) (ex := false) (k := .i64) (n := ((i : Nat) : Int)) rfl Tryz.underlying22 (by kernel_rfl) (by kernel_rfl) (by kernel_rfl) (by kernel_rfl) (by omega) (by omega)) ?_
  refine OK.seg 4 (by kernel_rfl) (OK.nil ?_)
  refine X.seq (X.region (OK.seg 1 (by kernel_rfl) (OK.nil ?_)))
  refine X.seq (X.seq (X.region (OK.seg 1 (by kernel_rfl) (OK.nil ?_))))
  refine X.block (X.seq (X.seq (X.region ?_)))
  refine OK.dec (kind = 1) (by kernel_rfl) (by kernel_rfl) (fun h15 => ?_) (fun h15 => ?_)
  · exfalso; omega
  refine OK.seg 1 (by kernel_rfl) (OK.nil ?_)
  refine X.condF (by kernel_rfl) ?_
  refine X.region ?_
  refine OK.dec (kind = 3) (by kernel_rfl) (by kernel_rfl) (fun h16 => ?_) (fun h16 => ?_)
  · exfalso; omega
  refine OK.seg 1 (by kernel_rfl) (OK.nil ?_)
  refine X.condF (by kernel_rfl) ?_
  refine X.seq (X.region ?_)
  refine OK.dec (kind = 4) (by kernel_rfl) (by kernel_rfl) (fun h17 => ?_) (fun h17 => ?_)
  · exfalso; omega
  refine OK.seg 1 (by kernel_rfl) (OK.nil ?_)
  refine X.condF (by kernel_rfl) ?_
  refine X.seq (X.region ?_)
  refine OK.dec (kind = 5) (by kernel_rfl) (by kernel_rfl) (fun h18 => ?_) (fun h18 => ?_)
  · exfalso; omega
  refine OK.seg 1 (by kernel_rfl) (OK.nil ?_)
  refine X.condF (by kernel_rfl) ?_
  refine X.skip (X.seq (X.region (OK.seg 1 (by kernel_rfl) (OK.nil ?_))))
  refine X.condF (by kernel_rfl) ?_
  refine X.skip (X.region ?_)
  refine OK.val (I ((i + 1 : Nat) : Int)) (by kernel_rfl) (fun _ => add_op (k := .i64) (a := ((i : Nat) : Int)) (b := 1) rfl (by kernel_rfl) (by kernel_rfl) (by rw [wrap64] <;> omega)) ?_
  refine OK.seg 1 (by kernel_rfl) (OK.nil ?_)
  exact ⟨([.agg (cS s), I kind, I self, .ptr 0 0, undefA, undefA, .list [] true, .sl 2 yg 0 ys.length, .opq, .opq, .opq, .list [] true, I kind, .bool false, .bool false, I kind, .bool false, .bool false, undefA, undefA, undefA, I kind, .bool false, undefA, undefA, undefA, .ptr 0 0, .list ((s.objs).map E) false, I ((((s.objs).map E).length : Nat) : Int), I ((i + 1 : Nat) : Int)] ++ List.replicate 38 .opq ++ [undefA] : List AV), [.box (cS s) false, .box [] true, .rows ((ys).map I) yg 1 false, .box (cO ((s.objs).getD i o0)) false], [0, 2, 0], [[], [], [], []], by kernel_rfl, by kernel_rfl, by simp only [bS, bl_cC, bl_aC, bl_Am, bl_cD, bl_aD, bl_ADm, bl_EFm, bl_eC], by simp only [bS, bl_cC, bl_aC, bl_Am, bl_cD, bl_aD, bl_ADm, bl_EFm, bl_eC], by kernel_rfl, m8 - 1, by omega, i + 1, by omega, by omega, .inr ⟨ys, yg, ys.length, rfl, iskip h6 (by rintro (⟨a1, a2⟩ | ⟨a1, a2⟩ | ⟨a1, a2⟩) <;> first | omega | exact absurd a2 (by assumption) | (simp only [spl, Int.toNat_natCast] at a2; omega)), by kernel_rfl, by kernel_rfl⟩⟩
theorem rList_w (s : St) (kind self : Int) : ∀ k σ, wf s → rightS s → 200000 ≤ k → readW (callW Tryz.prog (exec Tryz.prog cfg k)) 120 [.agg (cS s), I kind, I self] σ = some (.list ((lsA s kind self).map I) false, σ) := by
  intro k σ h1 h2 hk
  by_cases h : kind < 0 ∨ kind > 5
  · exact rList_kind k s kind self σ h1 h2 h hk
  · have : kind = 0 ∨ kind = 1 ∨ kind = 2 ∨ kind = 3 ∨ kind = 4 ∨ kind = 5 := by omega
    rcases this with rfl | rfl | rfl | rfl | rfl | rfl
    · exact rList_0 k s self σ h1 h2 hk
    · exact rList_1 k s self σ h1 h2 hk
    · exact rList_2 k s self σ h1 h2 hk
    · exact rList_3 k s self σ h1 h2 hk
    · exact rList_4 k s self σ h1 h2 hk
    · exact rList_5 k s self σ h1 h2 hk
theorem lsA_len {s : St} (h : wf s) (kind self : Int) : (lsA s kind self).length ≤ 100002 := by
  have h1 := ilen (l := lsI kind) (c := 1) (p := lsP s kind self) (i := s.objs.length) rfl
  have h2 : (lsI kind).length ≤ 2 := by
    unfold lsI; split
    · simp
    · split <;> simp
  have h3 := h.1
  unfold lsA
  omega
theorem mem_getD {L : List Int} {i : Nat} (h : i < L.length) : L.getD i 0 ∈ L := by simp [List.getD, h]
theorem not_mem {L : List Int} {t : Int} {i : Nat} (h : i = L.length) (h2 : ∀ j < i, L.getD j 0 ≠ t) : ¬ t ∈ L := by
  intro hm
  obtain ⟨j, hj⟩ := List.getElem?_of_mem hm
  have hl := (List.getElem?_eq_some_iff.1 hj).1
  exact h2 j (by omega) (by simp [List.getD, hj])
set_option maxHeartbeats 1000000 in
theorem rAllows_w : ∀ k (s : St) (kind self t : Int) σ, wf s → rightS s → 400000 ≤ k → readW (callW Tryz.prog (exec Tryz.prog cfg k)) 68 [.agg (cS s), I kind, I self, I t] σ = some (.bool (decide (alw s kind self t)), σ) := by
 intro k s kind self t σ hyp0 hyp1 hk
 obtain ⟨k, rfl⟩ : ∃ k', k = k' + 60 := ⟨k - 60, by omega⟩
 have hw1 := hyp0.1
 have hw2 := hyp0.2
 have hlm : ((s.objs).map E).length = s.objs.length := List.length_map _
 have hRS := hyp1
 have hok := (right_of hyp1).2.1
 have hln := (right_of hyp1).1
 have hls : ((lsA s kind self).map I).length = (lsA s kind self).length := List.length_map _
 have hlA := lsA_len hyp0 kind self
 refine reader_of Tryz.func68 rfl (by simp only [AV.frees, AV.free, fr_I, fr_E, fr_cO, fr_cL, fr_cS, Bool.and_self]) ?_
 refine X.seq (X.region (OK.seg 2 (by kernel_rfl) (OK.nil ?_)))
 refine X.seq (X.seq (X.region (OK.seg 3 (by kernel_rfl) ?_)))
 refine OK.rd [.agg (cS s), I kind, I self] [.agg (cS s), I kind, I self] (.list ((lsA s kind self).map I) false) rfl (by kernel_rfl) rfl (by kernel_rfl) (by kernel_rfl) (by kernel_rfl) (by kernel_rfl) (by kernel_rfl) (rList_w _ _ _ _ _ hyp0 (by assumption) (by omega)) ?_
 refine OK.seg 2 (by kernel_rfl) (OK.nil ?_)
 refine X.block ?_
 refine X.rounds3 (K := 500) [8, 10, 17, 18, 19, 20, 21, 22, 23] (by kernel_rfl) rfl (fun m fr σ => ∃ i : Nat, m = (lsA s kind self).length - i ∧ clearA' [8, 10, 17, 18, 19, 20, 21, 22, 23] fr = ([.agg (cS s), I kind, I self, I t, .ptr 0 0, undefA, undefA, undefA, .opq, undefA, .opq, .agg (cS s), I kind, I self, .list ((lsA s kind self).map I) false, I ((((lsA s kind self).map I).length : Nat) : Int), I ((i : Nat) : Int)] ++ List.replicate 7 .opq : List AV) ∧ σ = [.box (cS s) false] ∧ (i ≤ (lsA s kind self).length ∧ ∀ j < i, (lsA s kind self).getD j 0 ≠ t)) ?_ (m := (lsA s kind self).length) ⟨0, by first | rfl | omega, by kernel_rfl, by kernel_rfl, by exact ⟨Nat.zero_le _, fun j h => absurd h (Nat.not_lt_zero _)⟩⟩ ?_
 rotate_left
 · omega
 rintro m4 fr σ ⟨i, h2, h3, rfl, h1⟩ k h4
 rw [h3]; clear h3
 obtain ⟨k, rfl⟩ : ∃ k', k = k' + 60 := ⟨k - 60, by omega⟩
 refine X.seq (X.region ?_)
 refine OK.dec (((i : Nat) : Int) < ((((lsA s kind self).map I).length : Nat) : Int)) (by kernel_rfl) (by kernel_rfl) (fun h5 => ?_) (fun h5 => ?_)
 rotate_left
 ·
  refine OK.nil ?_
  refine X.seq (X.condF (by kernel_rfl) ?_)
  refine X.exit ?_
  show X _ _ _ _ _ _ _ _ _
  refine X.seq (X.region (OK.seg 1 (by kernel_rfl) (OK.nil ?_)))
  refine X.ret ?_
  exact ⟨rfl, giv (r := .bool false) (by kernel_rfl) (bool_f (p := alw s kind self t) (by exact fun hh => not_mem (i := i) (by omega) h1.2 ((lsA_iff s kind self t).2 hh)))⟩
 refine OK.nil ?_
 refine X.seq (X.condT (by kernel_rfl) ?_)
 refine X.skip (X.seq (X.block (X.seq (X.region ?_))))
 refine OK.val (.ro [I (((lsA s kind self).getD i 0))] 0) (by kernel_rfl) (fun _ => idx_map (sz := 1) (g := I) (d := 0) (xs := lsA s kind self) (ex := false) (k := .i64) (n := ((i : Nat) : Int)) rfl Tryz.underlying23 (by kernel_rfl) (by kernel_rfl) (by kernel_rfl) (by kernel_rfl) (by omega) (by omega)) ?_
 refine OK.seg 2 (by kernel_rfl) (OK.nil ?_)
 refine X.seq (X.region (OK.seg 2 (by kernel_rfl) ?_))
 refine OK.dec ((((lsA s kind self).getD i 0)) = t) (by kernel_rfl) (by kernel_rfl) (fun h6 => ?_) (fun h6 => ?_)
 ·
  refine OK.nil ?_
  refine X.condT (by kernel_rfl) ?_
  refine X.seq (X.region (OK.seg 1 (by kernel_rfl) (OK.nil ?_)))
  refine X.ret ?_
  exact ⟨rfl, giv (r := .bool true) (by kernel_rfl) (bool_t (p := alw s kind self t) (by exact (lsA_iff s kind self t).1 ((by assumption : (lsA s kind self).getD i 0 = t) ▸ mem_getD (by omega))))⟩
 refine OK.nil ?_
 refine X.condF (by kernel_rfl) ?_
 refine X.skip (X.region ?_)
 refine OK.val (I ((i + 1 : Nat) : Int)) (by kernel_rfl) (fun _ => add_op (k := .i64) (a := ((i : Nat) : Int)) (b := 1) rfl (by kernel_rfl) (by kernel_rfl) (by rw [wrap64] <;> omega)) ?_
 refine OK.seg 1 (by kernel_rfl) (OK.nil ?_)
 refine ⟨([.agg (cS s), I kind, I self, I t, .ptr 0 0, undefA, undefA, undefA, .opq, undefA, .opq, .agg (cS s), I kind, I self, .list ((lsA s kind self).map I) false, I ((((lsA s kind self).map I).length : Nat) : Int), I ((i + 1 : Nat) : Int)] ++ List.replicate 7 .opq : List AV), [.box (cS s) false], [0], [[]], by kernel_rfl, by kernel_rfl, by simp only [bS, bl_cC, bl_aC, bl_Am, bl_cD, bl_aD, bl_ADm, bl_EFm, bl_eC], by simp only [bS, bl_cC, bl_aC, bl_Am, bl_cD, bl_aD, bl_ADm, bl_EFm, bl_eC], by kernel_rfl, m4 - 1, by omega, i + 1, by first | rfl | omega, by kernel_rfl, by kernel_rfl, ?_⟩
 refine ⟨by omega, fun j hj => ?_⟩
 rcases Nat.lt_or_ge j i with hq | hq
 · exact h1.2 j hq
 · obtain rfl : j = i := by omega
   assumption
def alwd (s : St) (id : Int) : Prop := rightS s ∧ sta s id 9 ∧ alw s (abtA s id).target id ((s.objs.getD id.toNat o0) 16)
noncomputable instance (s : St) (id : Int) : Decidable (alwd s id) := Classical.propDecidable _
theorem rt_ok {s : St} (h : rightS s) : okR s := (right_of h).2.1
theorem tgt_ok {s : St} (h : rightS s) {id : Int} (h0 : 0 ≤ id) (h1 : id < s.objs.length) : (s.objs.getD id.toNat o0) 16 ≤ 9223372036854775807 := by
  have := (right_of h).2.1.1 id.toNat (by omega)
  have h2 := (right_of h).1
  simp only [okO] at this
  omega
set_option maxHeartbeats 1000000 in
theorem Allowed_w : ∀ k (s : St) (id : Int) σ, wf s → 1500000 ≤ k → readW (callW Tryz.prog (exec Tryz.prog cfg k)) 31 [.agg (cS s), I id] σ = some (.bool (decide (alwd s id)), σ) := by
 intro k s id σ hyp0 hk
 obtain ⟨k, rfl⟩ : ∃ k', k = k' + 60 := ⟨k - 60, by omega⟩
 have hw1 := hyp0.1
 have hw2 := hyp0.2
 have hlm : ((s.objs).map E).length = s.objs.length := List.length_map _
 refine reader_of Tryz.func31 rfl (by simp only [AV.frees, AV.free, fr_I, fr_E, fr_cO, fr_cL, fr_cS, Bool.and_self]) ?_
 refine X.seq (X.region (OK.seg 2 (by kernel_rfl) (OK.nil ?_)))
 refine X.seq (X.seq (X.region (OK.seg 1 (by kernel_rfl) ?_)))
 refine OK.rd [.agg (cS s)] [.agg (cS s)] (errS s) rfl (by kernel_rfl) rfl (by kernel_rfl) (by kernel_rfl) (by kernel_rfl) (by kernel_rfl) (by kernel_rfl) (Check_w _ _ _ hyp0 (by omega)) ?_
 rcases errS_cases s with ⟨hRh1, heh1⟩ | ⟨hRh1, vh1, heh1⟩ <;> rw [heh1]
 rotate_left
 ·
  refine OK.seg 7 (by kernel_rfl) (OK.nil ?_)
  refine X.condT (by kernel_rfl) ?_
  refine X.seq (X.region (OK.seg 1 (by kernel_rfl) (OK.nil ?_)))
  refine X.ret ?_
  exact ⟨rfl, giv (r := .bool false) (by kernel_rfl) (bool_f (p := alwd s id) (by rintro ⟨a1, a2, a3⟩; first | exact absurd a1 (by assumption) | exact absurd a2 (by assumption) | exact absurd a3 (by assumption) | exact absurd ((tch_zero (by assumption)).2 a3) (by assumption)))⟩
 refine OK.seg 4 (by kernel_rfl) ?_
 refine OK.rdP [.agg (cS s), I id, I 9] [.agg (cS s), I id, I 9] (sta s id 9) rfl (by kernel_rfl) rfl (by kernel_rfl) (by kernel_rfl) (by kernel_rfl) (by kernel_rfl) (by kernel_rfl) (stands_s _ _ _ _ _ hyp0 (by omega)) (fun h3 => ?_) (fun h3 => ?_)
 rotate_left
 ·
  refine OK.seg 2 (by kernel_rfl) (OK.nil ?_)
  refine X.condT (by kernel_rfl) ?_
  refine X.seq (X.region (OK.seg 1 (by kernel_rfl) (OK.nil ?_)))
  refine X.ret ?_
  exact ⟨rfl, giv (r := .bool false) (by kernel_rfl) (bool_f (p := alwd s id) (by rintro ⟨a1, a2, a3⟩; first | exact absurd a1 (by assumption) | exact absurd a2 (by assumption) | exact absurd a3 (by assumption) | exact absurd ((tch_zero (by assumption)).2 a3) (by assumption)))⟩
 have hok := rt_ok (by assumption)
 have hb0 := h3.1
 have hb1 := h3.2.1
 have htg := tgt_ok (by assumption) hb0 hb1
 refine OK.seg 2 (by kernel_rfl) (OK.nil ?_)
 refine X.condF (by kernel_rfl) ?_
 refine X.skip (X.seq (X.region (OK.seg 2 (by kernel_rfl) ?_)))
 refine OK.rd [.agg (cS s), I id] [.agg (cS s), I id] (.tuple [.agg (aC (abtA s id)), .bool (decide (abtP s id))]) rfl (by kernel_rfl) rfl (by kernel_rfl) (by kernel_rfl) (by kernel_rfl) (by kernel_rfl) (by kernel_rfl) (abt_w _ _ _ _ hyp0 hok (by omega) (by omega)) ?_
 refine OK.seg 6 (by kernel_rfl) (OK.nil ?_)
 refine X.seq (X.draw (by kernel_rfl) (by kernel_rfl) (by kernel_rfl) ?_)
 refine DK.seg 7 (by kernel_rfl) ?_
 refine DK.val (.ro (cO ((s.objs).getD id.toNat o0)) 0) (by kernel_rfl) (fun _ => idx_map (sz := 18) (g := E) (d := o0) (xs := s.objs) (ex := false) (k := .i64) (n := id) rfl Tryz.underlying22 (by kernel_rfl) (by kernel_rfl) (by kernel_rfl) (by kernel_rfl) (by omega) (by omega)) ?_
 refine DK.seg 2 (by kernel_rfl) ?_
 refine DK.rd [.agg (cS s), I ((abtA s id).target), I id, I (((s.objs).getD id.toNat o0) 16)] [.agg (cS s), I ((abtA s id).target), I id, I (((s.objs).getD id.toNat o0) 16)] (errN (tchN s ((abtA s id).target) id (((s.objs).getD id.toNat o0) 16))) rfl (by kernel_rfl) rfl (by kernel_rfl) (by kernel_rfl) (by kernel_rfl) (by kernel_rfl) (by kernel_rfl) (tCheck_w _ _ _ _ _ _ hyp0 (by omega) (by omega)) ?_
 rcases errN_cases (tchN s ((abtA s id).target) id (((s.objs).getD id.toNat o0) 16)) with ⟨hTh4, heh4⟩ | ⟨hTh4, heh4⟩ <;> rw [heh4]
 ·
  refine DK.seg 2 (by kernel_rfl) (DK.nil ?_)
  refine X.ret ?_
  exact ⟨rfl, giv (r := .bool true) (by kernel_rfl) (bool_t (p := alwd s id) (by exact ⟨by assumption, by assumption, by first | assumption | exact (tch_zero (by assumption)).1 (by assumption)⟩))⟩
 refine DK.seg 2 (by kernel_rfl) (DK.nil ?_)
 refine X.ret ?_
 exact ⟨rfl, giv (r := .bool false) (by kernel_rfl) (bool_f (p := alwd s id) (by rintro ⟨a1, a2, a3⟩; first | exact absurd a1 (by assumption) | exact absurd a2 (by assumption) | exact absurd a3 (by assumption) | exact absurd ((tch_zero (by assumption)).2 a3) (by assumption)))⟩
set_option maxHeartbeats 1000000 in
theorem rAllowed_w : ∀ k (s : St) (id : Int) σ, wf s → 1500000 ≤ k → readW (callW Tryz.prog (exec Tryz.prog cfg k)) 32 [.agg (cS s), I id] σ = some (.bool (decide (alwd s id)), σ) := by
 intro k s id σ hyp0 hk
 obtain ⟨k, rfl⟩ : ∃ k', k = k' + 60 := ⟨k - 60, by omega⟩
 have hw1 := hyp0.1
 have hw2 := hyp0.2
 have hlm : ((s.objs).map E).length = s.objs.length := List.length_map _
 refine reader_of Tryz.func32 rfl (by simp only [AV.frees, AV.free, fr_I, fr_E, fr_cO, fr_cL, fr_cS, Bool.and_self]) ?_
 refine X.seq (X.region (OK.seg 2 (by kernel_rfl) (OK.nil ?_)))
 refine X.seq (X.seq (X.region (OK.seg 1 (by kernel_rfl) ?_)))
 refine OK.rd [.agg (cS s)] [.agg (cS s)] (I (numS s)) rfl (by kernel_rfl) rfl (by kernel_rfl) (by kernel_rfl) (by kernel_rfl) (by kernel_rfl) (by kernel_rfl) (rCheck_w _ _ _ hyp0 (by omega)) ?_
 refine OK.ndec ((numS s) = 0) (by kernel_rfl) (by kernel_rfl) (fun h1 => ?_) (fun h1 => ?_)
 ·
  refine OK.seg 6 (by kernel_rfl) (OK.nil ?_)
  refine X.condT (by kernel_rfl) ?_
  refine X.seq (X.region (OK.seg 1 (by kernel_rfl) (OK.nil ?_)))
  refine X.ret ?_
  exact ⟨rfl, giv (r := .bool false) (by kernel_rfl) (bool_f (p := alwd s id) (by rintro ⟨a1, a2, a3⟩; first | exact absurd a1 (by assumption) | exact absurd a2 (by assumption) | exact absurd a3 (by assumption) | exact absurd ((tch_zero (by assumption)).2 a3) (by assumption)))⟩
 refine OK.seg 3 (by kernel_rfl) ?_
 refine OK.rdP [.agg (cS s), I id, I 9] [.agg (cS s), I id, I 9] (sta s id 9) rfl (by kernel_rfl) rfl (by kernel_rfl) (by kernel_rfl) (by kernel_rfl) (by kernel_rfl) (by kernel_rfl) (at_s _ _ _ _ _ hyp0 (by omega)) (fun h2 => ?_) (fun h2 => ?_)
 rotate_left
 ·
  refine OK.seg 2 (by kernel_rfl) (OK.nil ?_)
  refine X.condT (by kernel_rfl) ?_
  refine X.seq (X.region (OK.seg 1 (by kernel_rfl) (OK.nil ?_)))
  refine X.ret ?_
  exact ⟨rfl, giv (r := .bool false) (by kernel_rfl) (bool_f (p := alwd s id) (by rintro ⟨a1, a2, a3⟩; first | exact absurd a1 (by assumption) | exact absurd a2 (by assumption) | exact absurd a3 (by assumption) | exact absurd ((tch_zero (by assumption)).2 a3) (by assumption)))⟩
 have hok := rt_ok (by assumption)
 have hb0 := h2.1
 have hb1 := h2.2.1
 have htg := tgt_ok (by assumption) hb0 hb1
 refine OK.seg 2 (by kernel_rfl) (OK.nil ?_)
 refine X.condF (by kernel_rfl) ?_
 refine X.skip (X.seq (X.region (OK.seg 2 (by kernel_rfl) ?_)))
 refine OK.rd [.agg (cS s), I id] [.agg (cS s), I id] (.tuple [.agg (aC (abtA s id)), .bool (decide (abtP s id))]) rfl (by kernel_rfl) rfl (by kernel_rfl) (by kernel_rfl) (by kernel_rfl) (by kernel_rfl) (by kernel_rfl) (rabt_w _ _ _ _ hyp0 hok (by omega) (by omega)) ?_
 refine OK.seg 6 (by kernel_rfl) (OK.nil ?_)
 refine X.seq (X.draw (by kernel_rfl) (by kernel_rfl) (by kernel_rfl) ?_)
 refine DK.seg 7 (by kernel_rfl) ?_
 refine DK.val (.ro (cO ((s.objs).getD id.toNat o0)) 0) (by kernel_rfl) (fun _ => idx_map (sz := 18) (g := E) (d := o0) (xs := s.objs) (ex := false) (k := .i64) (n := id) rfl Tryz.underlying22 (by kernel_rfl) (by kernel_rfl) (by kernel_rfl) (by kernel_rfl) (by omega) (by omega)) ?_
 refine DK.seg 2 (by kernel_rfl) ?_
 refine DK.rdP [.agg (cS s), I ((abtA s id).target), I id, I (((s.objs).getD id.toNat o0) 16)] [.agg (cS s), I ((abtA s id).target), I id, I (((s.objs).getD id.toNat o0) 16)] (alw s ((abtA s id).target) id (((s.objs).getD id.toNat o0) 16)) rfl (by kernel_rfl) rfl (by kernel_rfl) (by kernel_rfl) (by kernel_rfl) (by kernel_rfl) (by kernel_rfl) (rAllows_w _ _ _ _ _ _ hyp0 (by assumption) (by omega)) (fun h3 => ?_) (fun h3 => ?_)
 ·
  refine DK.seg 1 (by kernel_rfl) (DK.nil ?_)
  refine X.ret ?_
  exact ⟨rfl, giv (r := .bool true) (by kernel_rfl) (bool_t (p := alwd s id) (by exact ⟨by assumption, by assumption, by first | assumption | exact (tch_zero (by assumption)).1 (by assumption)⟩))⟩
 refine DK.seg 1 (by kernel_rfl) (DK.nil ?_)
 refine X.ret ?_
 exact ⟨rfl, giv (r := .bool false) (by kernel_rfl) (bool_f (p := alwd s id) (by rintro ⟨a1, a2, a3⟩; first | exact absurd a1 (by assumption) | exact absurd a2 (by assumption) | exact absurd a3 (by assumption) | exact absurd ((tch_zero (by assumption)).2 a3) (by assumption)))⟩
end Go.Abs.Z
namespace Go.Abs.Z
open Go Go.Abs Go.Proofs
theorem eqf64 : EqFlat Tryz.prog 10000 64 true 6 := eqFlat_arr (len := 6) (m := 1) Tryz.underlying64 (by kernel_rfl) (by kernel_rfl) (fun _ => rfl) (eqFlat_int Tryz.underlying3)
def pcs (s : St) (p : Int) (i : Nat) : Int := if p = 0 then s.pl (1 + i) else if p = 1 then s.pl (10 + i) else 0
def pcC (s : St) (p : Int) : List AV := [I (pcs s p 0), I (pcs s p 1), I (pcs s p 2), I (pcs s p 3), I (pcs s p 4), I (pcs s p 5)]
theorem pc_o {s : St} {p : Int} (h : ¬ (p = 0 ∨ p = 1)) : AV.agg [I 0, I 0, I 0, I 0, I 0, I 0] = .agg (pcC s p) := by
  have e : ∀ i, pcs s p i = 0 := fun i => by unfold pcs; rw [if_neg (by omega), if_neg (by omega)]
  simp only [pcC, e]
theorem Pool_0 : ∀ k (s : St) σ, 200 ≤ k → readW (callW Tryz.prog (exec Tryz.prog cfg k)) 29 [.agg (cS s), I 0] σ = some (.agg (pcC s 0), σ) := by
 intro k s σ hk
 obtain ⟨k, rfl⟩ : ∃ k', k = k' + 60 := ⟨k - 60, by omega⟩
 refine reader_of Tryz.func29 rfl (by simp only [AV.frees, AV.free, fr_I, fr_E, fr_cO, fr_cL, fr_cS, Bool.and_self]) ?_
 refine X.seq (X.region (OK.seg 2 (by kernel_rfl) (OK.nil ?_)))
 refine X.seq (X.region (OK.seg 1 (by kernel_rfl) (OK.nil ?_)))
 refine X.seq (X.seq (X.region (OK.seg 6 (by kernel_rfl) (OK.nil ?_))))
 refine X.condT (by kernel_rfl) ?_
 refine X.draw (by kernel_rfl) (by kernel_rfl) (by kernel_rfl) ?_
 refine DK.seg 6 (by kernel_rfl) (DK.nil ?_)
 refine X.seq (X.region (OK.seg 2 (by kernel_rfl) (OK.nil ?_)))
 refine X.ret ?_
 exact ⟨rfl, giv (r := .agg [I (s.pl 1), I (s.pl 2), I (s.pl 3), I (s.pl 4), I (s.pl 5), I (s.pl 6)]) (by kernel_rfl) (by kernel_rfl)⟩
theorem Pool_1 : ∀ k (s : St) σ, 200 ≤ k → readW (callW Tryz.prog (exec Tryz.prog cfg k)) 29 [.agg (cS s), I 1] σ = some (.agg (pcC s 1), σ) := by
 intro k s σ hk
 obtain ⟨k, rfl⟩ : ∃ k', k = k' + 60 := ⟨k - 60, by omega⟩
 refine reader_of Tryz.func29 rfl (by simp only [AV.frees, AV.free, fr_I, fr_E, fr_cO, fr_cL, fr_cS, Bool.and_self]) ?_
 refine X.seq (X.region (OK.seg 2 (by kernel_rfl) (OK.nil ?_)))
 refine X.seq (X.region (OK.seg 1 (by kernel_rfl) (OK.nil ?_)))
 refine X.seq (X.seq (X.region (OK.seg 6 (by kernel_rfl) (OK.nil ?_))))
 refine X.condT (by kernel_rfl) ?_
 refine X.draw (by kernel_rfl) (by kernel_rfl) (by kernel_rfl) ?_
 refine DK.seg 6 (by kernel_rfl) (DK.nil ?_)
 refine X.seq (X.region (OK.seg 2 (by kernel_rfl) (OK.nil ?_)))
 refine X.ret ?_
 exact ⟨rfl, giv (r := .agg [I (s.pl 10), I (s.pl 11), I (s.pl 12), I (s.pl 13), I (s.pl 14), I (s.pl 15)]) (by kernel_rfl) (by kernel_rfl)⟩
theorem Pool_o : ∀ k (s : St) (p : Int) σ, ¬ (p = 0 ∨ p = 1) → 200 ≤ k → readW (callW Tryz.prog (exec Tryz.prog cfg k)) 29 [.agg (cS s), I p] σ = some (.agg (pcC s p), σ) := by
 intro k s p σ hyp0 hk
 obtain ⟨k, rfl⟩ : ∃ k', k = k' + 60 := ⟨k - 60, by omega⟩
 refine reader_of Tryz.func29 rfl (by simp only [AV.frees, AV.free, fr_I, fr_E, fr_cO, fr_cL, fr_cS, Bool.and_self]) ?_
 refine X.seq (X.region (OK.seg 2 (by kernel_rfl) (OK.nil ?_)))
 refine X.seq (X.region (OK.seg 1 (by kernel_rfl) (OK.nil ?_)))
 refine X.seq (X.seq (X.region (OK.seg 1 (by kernel_rfl) ?_)))
 refine OK.dec (p = 0) (by kernel_rfl) (by kernel_rfl) (fun h1 => ?_) (fun h1 => ?_)
 · exfalso; omega
 refine OK.seg 2 (by kernel_rfl) ?_
 refine OK.dec (p = 1) (by kernel_rfl) (by kernel_rfl) (fun h2 => ?_) (fun h2 => ?_)
 · exfalso; omega
 refine OK.seg 1 (by kernel_rfl) (OK.nil ?_)
 refine X.condF (by kernel_rfl) ?_
 refine X.skip (X.seq (X.region (OK.seg 2 (by kernel_rfl) (OK.nil ?_))))
 refine X.ret ?_
 exact ⟨rfl, giv (r := .agg [I 0, I 0, I 0, I 0, I 0, I 0]) (by kernel_rfl) (by exact pc_o hyp0)⟩
theorem Pool_w (s : St) (p : Int) : ∀ k σ, 200 ≤ k → readW (callW Tryz.prog (exec Tryz.prog cfg k)) 29 [.agg (cS s), I p] σ = some (.agg (pcC s p), σ) := by
  intro k σ hk
  by_cases h : p = 0 ∨ p = 1
  · rcases h with rfl | rfl
    · exact Pool_0 k s σ hk
    · exact Pool_1 k s σ hk
  · exact Pool_o k s p σ h hk
theorem rPool_0 : ∀ k (s : St) σ, 200 ≤ k → readW (callW Tryz.prog (exec Tryz.prog cfg k)) 30 [.agg (cS s), I 0] σ = some (.agg (pcC s 0), σ) := by
 intro k s σ hk
 obtain ⟨k, rfl⟩ : ∃ k', k = k' + 60 := ⟨k - 60, by omega⟩
 refine reader_of Tryz.func30 rfl (by simp only [AV.frees, AV.free, fr_I, fr_E, fr_cO, fr_cL, fr_cS, Bool.and_self]) ?_
 refine X.seq (X.region (OK.seg 2 (by kernel_rfl) (OK.nil ?_)))
 refine X.seq (X.region (OK.seg 3 (by kernel_rfl) (OK.nil ?_)))
 refine X.seq (X.seq (X.region (OK.seg 6 (by kernel_rfl) (OK.nil ?_))))
 refine X.condT (by kernel_rfl) ?_
 refine X.seq (X.region (OK.seg 1 (by kernel_rfl) (OK.nil ?_)))
 refine X.block ?_
 refine X.at ([.agg (cS s), I 0, .ptr 0 0, undefA, .ptr 1 0, .ptr 2 0, I 0, .agg [I 0, I 0, I 0, I 0, I 0, I 0], I 0, .bool true, .bool true, undefA, undefA, .bool true] ++ List.replicate 14 undefA : List AV) [.box (cS s) false, .box [I 0, I 0, I 0, I 0, I 0, I 0] false, .box [I 0, I 0, I 0, I 0, I 0, I 0] false] (by kernel_rfl) (by kernel_rfl) ?_
 refine X.loop1 (by kernel_rfl) ?_
 refine X.seq (X.seq (X.region (OK.seg 2 (by kernel_rfl) (OK.nil ?_))))
 refine X.condT (by kernel_rfl) ?_
 refine X.skip (X.seq (X.block (X.region (OK.seg 10 (by kernel_rfl) (OK.nil ?_)))))
 refine X.region (OK.seg 3 (by kernel_rfl) (OK.nil ?_))
 show X _ _ _ _ _ _ _ _ _
 refine X.loop1 (by kernel_rfl) ?_
 refine X.seq (X.seq (X.region (OK.seg 2 (by kernel_rfl) (OK.nil ?_))))
 refine X.condT (by kernel_rfl) ?_
 refine X.skip (X.seq (X.block (X.region (OK.seg 10 (by kernel_rfl) (OK.nil ?_)))))
 refine X.region (OK.seg 3 (by kernel_rfl) (OK.nil ?_))
 show X _ _ _ _ _ _ _ _ _
 refine X.loop1 (by kernel_rfl) ?_
 refine X.seq (X.seq (X.region (OK.seg 2 (by kernel_rfl) (OK.nil ?_))))
 refine X.condT (by kernel_rfl) ?_
 refine X.skip (X.seq (X.block (X.region (OK.seg 10 (by kernel_rfl) (OK.nil ?_)))))
 refine X.region (OK.seg 3 (by kernel_rfl) (OK.nil ?_))
 show X _ _ _ _ _ _ _ _ _
 refine X.loop1 (by kernel_rfl) ?_
 refine X.seq (X.seq (X.region (OK.seg 2 (by kernel_rfl) (OK.nil ?_))))
 refine X.condT (by kernel_rfl) ?_
 refine X.skip (X.seq (X.block (X.region (OK.seg 10 (by kernel_rfl) (OK.nil ?_)))))
 refine X.region (OK.seg 3 (by kernel_rfl) (OK.nil ?_))
 show X _ _ _ _ _ _ _ _ _
 refine X.loop1 (by kernel_rfl) ?_
 refine X.seq (X.seq (X.region (OK.seg 2 (by kernel_rfl) (OK.nil ?_))))
 refine X.condT (by kernel_rfl) ?_
 refine X.skip (X.seq (X.block (X.region (OK.seg 10 (by kernel_rfl) (OK.nil ?_)))))
 refine X.region (OK.seg 3 (by kernel_rfl) (OK.nil ?_))
 show X _ _ _ _ _ _ _ _ _
 refine X.loop1 (by kernel_rfl) ?_
 refine X.seq (X.seq (X.region (OK.seg 2 (by kernel_rfl) (OK.nil ?_))))
 refine X.condT (by kernel_rfl) ?_
 refine X.skip (X.seq (X.block (X.region (OK.seg 10 (by kernel_rfl) (OK.nil ?_)))))
 refine X.region (OK.seg 3 (by kernel_rfl) (OK.nil ?_))
 show X _ _ _ _ _ _ _ _ _
 refine X.loop1 (by kernel_rfl) ?_
 refine X.seq (X.seq (X.region (OK.seg 2 (by kernel_rfl) (OK.nil ?_))))
 refine X.condF (by kernel_rfl) ?_
 refine X.exit ?_
 show X _ _ _ _ _ _ _ _ _
 refine X.seq (X.region (OK.seg 2 (by kernel_rfl) (OK.nil ?_)))
 refine X.ret ?_
 exact ⟨rfl, giv (r := .agg [I (s.pl 1), I (s.pl 2), I (s.pl 3), I (s.pl 4), I (s.pl 5), I (s.pl 6)]) (by kernel_rfl) (by kernel_rfl)⟩
theorem rPool_1 : ∀ k (s : St) σ, 200 ≤ k → readW (callW Tryz.prog (exec Tryz.prog cfg k)) 30 [.agg (cS s), I 1] σ = some (.agg (pcC s 1), σ) := by
 intro k s σ hk
 obtain ⟨k, rfl⟩ : ∃ k', k = k' + 60 := ⟨k - 60, by omega⟩
 refine reader_of Tryz.func30 rfl (by simp only [AV.frees, AV.free, fr_I, fr_E, fr_cO, fr_cL, fr_cS, Bool.and_self]) ?_
 refine X.seq (X.region (OK.seg 2 (by kernel_rfl) (OK.nil ?_)))
 refine X.seq (X.region (OK.seg 3 (by kernel_rfl) (OK.nil ?_)))
 refine X.seq (X.seq (X.region (OK.seg 6 (by kernel_rfl) (OK.nil ?_))))
 refine X.condT (by kernel_rfl) ?_
 refine X.seq (X.region (OK.seg 1 (by kernel_rfl) (OK.nil ?_)))
 refine X.block ?_
 refine X.at ([.agg (cS s), I 1, .ptr 0 0, undefA, .ptr 1 0, .ptr 2 0, I 0, .agg [I 0, I 0, I 0, I 0, I 0, I 0], I 1, .bool false, .bool false, I 1, .bool true, .bool true] ++ List.replicate 14 undefA : List AV) [.box (cS s) false, .box [I 0, I 0, I 0, I 0, I 0, I 0] false, .box [I 0, I 0, I 0, I 0, I 0, I 0] false] (by kernel_rfl) (by kernel_rfl) ?_
 refine X.loop1 (by kernel_rfl) ?_
 refine X.seq (X.seq (X.region (OK.seg 2 (by kernel_rfl) (OK.nil ?_))))
 refine X.condT (by kernel_rfl) ?_
 refine X.skip (X.seq (X.block (X.region (OK.seg 10 (by kernel_rfl) (OK.nil ?_)))))
 refine X.region (OK.seg 3 (by kernel_rfl) (OK.nil ?_))
 show X _ _ _ _ _ _ _ _ _
 refine X.loop1 (by kernel_rfl) ?_
 refine X.seq (X.seq (X.region (OK.seg 2 (by kernel_rfl) (OK.nil ?_))))
 refine X.condT (by kernel_rfl) ?_
 refine X.skip (X.seq (X.block (X.region (OK.seg 10 (by kernel_rfl) (OK.nil ?_)))))
 refine X.region (OK.seg 3 (by kernel_rfl) (OK.nil ?_))
 show X _ _ _ _ _ _ _ _ _
 refine X.loop1 (by kernel_rfl) ?_
 refine X.seq (X.seq (X.region (OK.seg 2 (by kernel_rfl) (OK.nil ?_))))
 refine X.condT (by kernel_rfl) ?_
 refine X.skip (X.seq (X.block (X.region (OK.seg 10 (by kernel_rfl) (OK.nil ?_)))))
 refine X.region (OK.seg 3 (by kernel_rfl) (OK.nil ?_))
 show X _ _ _ _ _ _ _ _ _
 refine X.loop1 (by kernel_rfl) ?_
 refine X.seq (X.seq (X.region (OK.seg 2 (by kernel_rfl) (OK.nil ?_))))
 refine X.condT (by kernel_rfl) ?_
 refine X.skip (X.seq (X.block (X.region (OK.seg 10 (by kernel_rfl) (OK.nil ?_)))))
 refine X.region (OK.seg 3 (by kernel_rfl) (OK.nil ?_))
 show X _ _ _ _ _ _ _ _ _
 refine X.loop1 (by kernel_rfl) ?_
 refine X.seq (X.seq (X.region (OK.seg 2 (by kernel_rfl) (OK.nil ?_))))
 refine X.condT (by kernel_rfl) ?_
 refine X.skip (X.seq (X.block (X.region (OK.seg 10 (by kernel_rfl) (OK.nil ?_)))))
 refine X.region (OK.seg 3 (by kernel_rfl) (OK.nil ?_))
 show X _ _ _ _ _ _ _ _ _
 refine X.loop1 (by kernel_rfl) ?_
 refine X.seq (X.seq (X.region (OK.seg 2 (by kernel_rfl) (OK.nil ?_))))
 refine X.condT (by kernel_rfl) ?_
 refine X.skip (X.seq (X.block (X.region (OK.seg 10 (by kernel_rfl) (OK.nil ?_)))))
 refine X.region (OK.seg 3 (by kernel_rfl) (OK.nil ?_))
 show X _ _ _ _ _ _ _ _ _
 refine X.loop1 (by kernel_rfl) ?_
 refine X.seq (X.seq (X.region (OK.seg 2 (by kernel_rfl) (OK.nil ?_))))
 refine X.condF (by kernel_rfl) ?_
 refine X.exit ?_
 show X _ _ _ _ _ _ _ _ _
 refine X.seq (X.region (OK.seg 2 (by kernel_rfl) (OK.nil ?_)))
 refine X.ret ?_
 exact ⟨rfl, giv (r := .agg [I (s.pl 10), I (s.pl 11), I (s.pl 12), I (s.pl 13), I (s.pl 14), I (s.pl 15)]) (by kernel_rfl) (by kernel_rfl)⟩
theorem rPool_o : ∀ k (s : St) (p : Int) σ, ¬ (p = 0 ∨ p = 1) → 200 ≤ k → readW (callW Tryz.prog (exec Tryz.prog cfg k)) 30 [.agg (cS s), I p] σ = some (.agg (pcC s p), σ) := by
 intro k s p σ hyp0 hk
 obtain ⟨k, rfl⟩ : ∃ k', k = k' + 60 := ⟨k - 60, by omega⟩
 refine reader_of Tryz.func30 rfl (by simp only [AV.frees, AV.free, fr_I, fr_E, fr_cO, fr_cL, fr_cS, Bool.and_self]) ?_
 refine X.seq (X.region (OK.seg 2 (by kernel_rfl) (OK.nil ?_)))
 refine X.seq (X.region (OK.seg 3 (by kernel_rfl) (OK.nil ?_)))
 refine X.seq (X.seq (X.region (OK.seg 1 (by kernel_rfl) ?_)))
 refine OK.dec (p = 0) (by kernel_rfl) (by kernel_rfl) (fun h1 => ?_) (fun h1 => ?_)
 · exfalso; omega
 refine OK.seg 2 (by kernel_rfl) ?_
 refine OK.dec (p = 1) (by kernel_rfl) (by kernel_rfl) (fun h2 => ?_) (fun h2 => ?_)
 · exfalso; omega
 refine OK.seg 1 (by kernel_rfl) (OK.nil ?_)
 refine X.condF (by kernel_rfl) ?_
 refine X.skip (X.seq (X.region (OK.seg 2 (by kernel_rfl) (OK.nil ?_))))
 refine X.ret ?_
 exact ⟨rfl, giv (r := .agg [I 0, I 0, I 0, I 0, I 0, I 0]) (by kernel_rfl) (by exact pc_o hyp0)⟩
theorem rPool_w (s : St) (p : Int) : ∀ k σ, 200 ≤ k → readW (callW Tryz.prog (exec Tryz.prog cfg k)) 30 [.agg (cS s), I p] σ = some (.agg (pcC s p), σ) := by
  intro k σ hk
  by_cases h : p = 0 ∨ p = 1
  · rcases h with rfl | rfl
    · exact rPool_0 k s σ hk
    · exact rPool_1 k s σ hk
  · exact rPool_o k s p σ h hk
end Go.Abs.Z
namespace Go.Abs.Z
open Go Go.Abs Go.Proofs
def cSf (s : St) (x : Nat → Bool) : List AV := [.list (s.objs.map E) (x 0), .list ((s.ls 0).map I) (x 1), .list ((s.ls 1).map I) (x 2), .list ((s.ls 2).map I) (x 3), .list ((s.ls 3).map I) (x 4), .list ((s.ls 4).map I) (x 5), .list ((s.ls 5).map I) (x 6), .list ((s.ls 6).map I) (x 7), .list ((s.ls 7).map I) (x 8), .list ((s.ls 8).map I) (x 9), .list ((s.ls 9).map I) (x 10), .list ((s.ls 10).map I) (x 11), I (s.pl 0), I (s.pl 1), I (s.pl 2), I (s.pl 3), I (s.pl 4), I (s.pl 5), I (s.pl 6), I (s.pl 7), I (s.pl 8), I (s.pl 9), I (s.pl 10), I (s.pl 11), I (s.pl 12), I (s.pl 13), I (s.pl 14), I (s.pl 15), I (s.pl 16), I (s.pl 17), I (s.gm 0), I (s.gm 1), I (s.gm 2), I (s.gm 3), I (s.gm 4), I (s.gm 5), I (s.gm 6)]
theorem wf_big {s : St} {m : Nat} (h : ¬ big s m) (hm : m ≤ 90000) (hz : ∀ z, 11 ≤ z → s.ls z = []) : wf s := by
  unfold big at h
  refine ⟨by omega, fun z => ?_⟩
  rcases Nat.lt_or_ge z 11 with h1 | h1
  · rcases z with _|_|_|_|_|_|_|_|_|_|_|z <;> first | omega | (simp only [Nat.zero_add, Nat.reduceAdd] at *; omega)
  · rw [hz z h1]; simp
theorem tells_ok (s : St) (x : Nat → Bool) (hz : ∀ z, 11 ≤ z → s.ls z = []) (id p : Int) :
    ∃ σ', callF Tryz.prog cfg 2000000 6 [.agg (cSf s x), I id, I p] 0 [] = some (.bool true, σ') := by
 refine call_of Tryz.func6 rfl ?_
 refine X.seq ?_
 refine X.region ?_
 refine OK.segE 2 ([.agg (cSf s x), I id, I p, .ptr 0 0, undefA, undefA, .bool false] ++ List.replicate 20 undefA : List AV) [.box (cSf s x) false] (by kernel_rfl) ?_
 refine OK.nil ?_
 refine X.seq ?_
 refine X.seq ?_
 refine X.region ?_
 refine OK.rd [] [] (.bool true) rfl (by kernel_rfl) rfl (by kernel_rfl) (by kernel_rfl) (by kernel_rfl) (by kernel_rfl) (by kernel_rfl) (al_w _ _ (by omega)) ?_
 refine OK.segE 1 ([.agg (cSf s x), I id, I p, .ptr 0 0, undefA, undefA, .bool false, .bool true, .bool false] ++ List.replicate 18 undefA : List AV) [.box (cSf s x) false] (by kernel_rfl) ?_
 refine OK.nil ?_
 refine X.condF (by kernel_rfl) ?_
 refine X.skip ?_
 refine X.seq ?_
 refine X.seq ?_
 refine X.region ?_
 refine OK.segE 1 ([.agg (cSf s x), I id, I p, .ptr 0 0, undefA, undefA, .bool false, .bool true, .bool false, .agg (cSf s x)] ++ List.replicate 17 undefA : List AV) [.box (cSf s x) false] (by kernel_rfl) ?_
 refine OK.rdP [.agg (cSf s x), I 40] [.agg (cS s), I 40] (big s 40) rfl (by kernel_rfl) rfl (by kernel_rfl) (by kernel_rfl) (by kernel_rfl) (by kernel_rfl) (by kernel_rfl) (Long_w _ _ _ (by omega)) (fun h1 => ?_) (fun h1 => ?_)
 ·
  refine OK.nil ?_
  refine X.condT (by kernel_rfl) ?_
  refine X.seq ?_
  refine X.region ?_
  refine OK.segE 1 ([.agg (cSf s x), I id, I p, .ptr 0 0, undefA, undefA, .bool true, .bool true, .bool false, .agg (cSf s x), .bool true] ++ List.replicate 16 undefA : List AV) [.box (cSf s x) false] (by kernel_rfl) ?_
  refine OK.nil ?_
  refine X.ret ?_
  exact ⟨rfl, by kernel_rfl⟩
 have hyp0 := wf_big h1 (by omega) hz
 refine OK.nil ?_
 refine X.condF (by kernel_rfl) ?_
 refine X.skip ?_
 refine X.seq ?_
 refine X.draw (by kernel_rfl) (by kernel_rfl) (by kernel_rfl) ?_
 refine DK.segE 2 ([.agg (cSf s x), I id, I p, .ptr 0 0, undefA, undefA, .bool false, .bool true, .bool false, .agg (cSf s x), .bool false, .agg (cSf s x), I p] ++ List.replicate 14 undefA : List AV) [.box (cSf s x) false] (by kernel_rfl) ?_
 refine DK.rd [.agg (cSf s x), I p] [.agg (cS s), I p] (.agg (pcC s p)) rfl (by kernel_rfl) rfl (by kernel_rfl) (by kernel_rfl) (by kernel_rfl) (by kernel_rfl) (by kernel_rfl) (Pool_w _ _ _ _ (by omega)) ?_
 refine DK.segE 2 ([.agg (cSf s x), I id, I p, .ptr 0 0, undefA, undefA, .bool false, .bool true, .bool false, .agg (cSf s x), .bool false, .agg (cSf s x), I p, .agg (pcC s p), .agg (cSf s x), I p] ++ List.replicate 11 undefA : List AV) [.box (cSf s x) false] (by kernel_rfl) ?_
 refine DK.rd [.agg (cSf s x), I p] [.agg (cS s), I p] (.agg (pcC s p)) rfl (by kernel_rfl) rfl (by kernel_rfl) (by kernel_rfl) (by kernel_rfl) (by kernel_rfl) (by kernel_rfl) (rPool_w _ _ _ _ (by omega)) ?_
 refine DK.dec ([(pcs s p 0), (pcs s p 1), (pcs s p 2), (pcs s p 3), (pcs s p 4), (pcs s p 5)] = [(pcs s p 0), (pcs s p 1), (pcs s p 2), (pcs s p 3), (pcs s p 4), (pcs s p 5)]) (by kernel_rfl) (eqv_op [(pcs s p 0), (pcs s p 1), (pcs s p 2), (pcs s p 3), (pcs s p 4), (pcs s p 5)] [(pcs s p 0), (pcs s p 1), (pcs s p 2), (pcs s p 3), (pcs s p 4), (pcs s p 5)] rfl (by kernel_rfl) (by kernel_rfl) (by kernel_rfl) eqf64 rfl rfl) (fun h2 => ?_) (fun h2 => ?_)
 rotate_left
 ·
  refine DK.segE 10 ([.agg (cSf s x), I id, I p, .ptr 0 0, undefA, undefA, .bool false, .bool true, .bool false, .agg (cSf s x), .bool false, .agg (cSf s x), I p, .agg (pcC s p), .agg (cSf s x), I p, .agg (pcC s p), .bool false, .bool false] ++ List.replicate 7 undefA ++ [.bool false] : List AV) [.box (cSf s x) false] (by kernel_rfl) ?_
  refine DK.nil ?_
  refine X.ret ?_
  first | exact absurd rfl (by assumption) | exact absurd (by assumption : alwd s id) (by assumption)
 refine DK.segE 3 ([.agg (cSf s x), I id, I p, .ptr 0 0, undefA, undefA, .bool false, .bool true, .bool false, .agg (cSf s x), .bool false, .agg (cSf s x), I p, .agg (pcC s p), .agg (cSf s x), I p, .agg (pcC s p), .bool true, .bool true, .agg (cSf s x), I id] ++ List.replicate 6 undefA : List AV) [.box (cSf s x) false] (by kernel_rfl) ?_
 refine DK.rdP [.agg (cSf s x), I id] [.agg (cS s), I id] (alwd s id) rfl (by kernel_rfl) rfl (by kernel_rfl) (by kernel_rfl) (by kernel_rfl) (by kernel_rfl) (by kernel_rfl) (Allowed_w _ _ _ _ hyp0 (by omega)) (fun h3 => ?_) (fun h3 => ?_)
 ·
  refine DK.segE 2 [.agg (cSf s x), I id, I p, .ptr 0 0, undefA, undefA, .bool false, .bool true, .bool false, .agg (cSf s x), .bool false, .agg (cSf s x), I p, .agg (pcC s p), .agg (cSf s x), I p, .agg (pcC s p), .bool true, .bool true, .agg (cSf s x), I id, .bool true, .agg (cSf s x), I id, undefA, undefA, undefA] [.box (cSf s x) false] (by kernel_rfl) ?_
  refine DK.rdP [.agg (cSf s x), I id] [.agg (cS s), I id] (alwd s id) rfl (by kernel_rfl) rfl (by kernel_rfl) (by kernel_rfl) (by kernel_rfl) (by kernel_rfl) (by kernel_rfl) (rAllowed_w _ _ _ _ hyp0 (by omega)) (fun h4 => ?_) (fun h4 => ?_)
  ·
   refine DK.segE 3 [.agg (cSf s x), I id, I p, .ptr 0 0, undefA, undefA, .bool true, .bool true, .bool false, .agg (cSf s x), .bool false, .agg (cSf s x), I p, .agg (pcC s p), .agg (cSf s x), I p, .agg (pcC s p), .bool true, .bool true, .agg (cSf s x), I id, .bool true, .agg (cSf s x), I id, .bool true, .bool true, .bool true] [.box (cSf s x) false] (by kernel_rfl) ?_
   refine DK.nil ?_
   refine X.ret ?_
   exact ⟨rfl, by kernel_rfl⟩
  refine DK.segE 3 [.agg (cSf s x), I id, I p, .ptr 0 0, undefA, undefA, .bool false, .bool true, .bool false, .agg (cSf s x), .bool false, .agg (cSf s x), I p, .agg (pcC s p), .agg (cSf s x), I p, .agg (pcC s p), .bool true, .bool true, .agg (cSf s x), I id, .bool true, .agg (cSf s x), I id, .bool false, .bool false, .bool false] [.box (cSf s x) false] (by kernel_rfl) ?_
  refine DK.nil ?_
  refine X.ret ?_
  first | exact absurd rfl (by assumption) | exact absurd (by assumption : alwd s id) (by assumption)
 refine DK.segE 2 [.agg (cSf s x), I id, I p, .ptr 0 0, undefA, undefA, .bool false, .bool true, .bool false, .agg (cSf s x), .bool false, .agg (cSf s x), I p, .agg (pcC s p), .agg (cSf s x), I p, .agg (pcC s p), .bool true, .bool true, .agg (cSf s x), I id, .bool false, .agg (cSf s x), I id, undefA, undefA, undefA] [.box (cSf s x) false] (by kernel_rfl) ?_
 refine DK.rdP [.agg (cSf s x), I id] [.agg (cS s), I id] (alwd s id) rfl (by kernel_rfl) rfl (by kernel_rfl) (by kernel_rfl) (by kernel_rfl) (by kernel_rfl) (by kernel_rfl) (rAllowed_w _ _ _ _ hyp0 (by omega)) (fun h5 => ?_) (fun h5 => ?_)
 rotate_left
 ·
  refine DK.segE 3 [.agg (cSf s x), I id, I p, .ptr 0 0, undefA, undefA, .bool true, .bool true, .bool false, .agg (cSf s x), .bool false, .agg (cSf s x), I p, .agg (pcC s p), .agg (cSf s x), I p, .agg (pcC s p), .bool true, .bool true, .agg (cSf s x), I id, .bool false, .agg (cSf s x), I id, .bool false, .bool true, .bool true] [.box (cSf s x) false] (by kernel_rfl) ?_
  refine DK.nil ?_
  refine X.ret ?_
  exact ⟨rfl, by kernel_rfl⟩
 refine DK.segE 3 [.agg (cSf s x), I id, I p, .ptr 0 0, undefA, undefA, .bool false, .bool true, .bool false, .agg (cSf s x), .bool false, .agg (cSf s x), I p, .agg (pcC s p), .agg (cSf s x), I p, .agg (pcC s p), .bool true, .bool true, .agg (cSf s x), I id, .bool false, .agg (cSf s x), I id, .bool true, .bool false, .bool false] [.box (cSf s x) false] (by kernel_rfl) ?_
 refine DK.nil ?_
 refine X.ret ?_
 first | exact absurd rfl (by assumption) | exact absurd (by assumption : alwd s id) (by assumption)
end Go.Abs.Z
