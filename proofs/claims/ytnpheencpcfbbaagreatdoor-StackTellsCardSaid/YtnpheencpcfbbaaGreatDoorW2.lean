/-
  Walks: the lists of a state, and whether it is right, in the program and in the document: the same. Each for lists of up to 100000.
-/
import Derived.Test.YtnpheencpcfbbaaGreatDoorW1
import Derived.Test.YtnpheencpcfbbaaGreatDoorL3
set_option linter.unusedSimpArgs false
set_option linter.unusedVariables false
namespace Go.Abs.Z
open Go Go.Abs Go.Proofs
def pre (s : St) (z : Nat) : List Int := (List.range z).flatMap s.ls
theorem pre_succ (s : St) (z : Nat) : pre s (z + 1) = pre s z ++ s.ls z := by simp [pre, List.range_succ]
def ok1 (s : St) (z : Nat) (id : Int) : Prop := 0 ≤ id ∧ id < s.objs.length ∧ (s.objs.getD id.toNat o0) 3 = z ∧ stn (s.objs.getD id.toNat o0) z
def zonesI (s : St) : Prop := (∀ z < 11, ∀ id ∈ s.ls z, ok1 s z id) ∧ (pre s 11).Nodup ∧ (pre s 11).length = s.objs.length
noncomputable instance (s : St) : Decidable (zonesI s) := Classical.propDecidable _
theorem pre_prefix (s : St) {z w : Nat} (h : z ≤ w) : pre s z <+: pre s w := by
  induction w with
  | zero => rw [show z = 0 by omega]; exact List.prefix_rfl
  | succ w ih =>
    rcases Nat.lt_or_ge z (w + 1) with h1 | h1
    · rw [pre_succ]; exact (ih (by omega)).trans (List.prefix_append _ _)
    · rw [show z = w + 1 by omega]; exact List.prefix_rfl
def upto (s : St) (z j : Nat) : List Int := pre s z ++ (s.ls z).take j
def Zi (s : St) (z j : Nat) (seen : List Bool) (c : Nat) : Prop :=
  (∀ z' < z, ∀ id ∈ s.ls z', ok1 s z' id) ∧ (∀ id ∈ (s.ls z).take j, ok1 s z id) ∧ (upto s z j).Nodup ∧ c = (upto s z j).length ∧ seen.length = s.objs.length ∧
    ∀ k < s.objs.length, (seen.getD k false = true ↔ (k : Int) ∈ upto s z j)
theorem Zi_init (s : St) {n : Nat} (hn : n = s.objs.length) : Zi s 0 0 (List.replicate n false) 0 := by
  subst hn
  refine ⟨fun _ h => absurd h (Nat.not_lt_zero _), by simp, by simp [upto, pre], by simp [upto, pre], by simp, fun k hk => ?_⟩
  simp [upto, pre, List.getD, List.getElem?_replicate, hk]
theorem Zi_next {s : St} {z j : Nat} {seen : List Bool} {c : Nat} (h : Zi s z j seen c) (hj : (s.ls z).length ≤ j) : Zi s (z + 1) 0 seen c := by
  obtain ⟨h1, h2, h3, h4, h5, h6⟩ := h
  have e : upto s (z + 1) 0 = upto s z j := by simp [upto, pre_succ, List.take_of_length_le hj]
  refine ⟨fun z' hz' id hid => ?_, by simp, by rw [e]; exact h3, by rw [e]; exact h4, h5, fun k hk => by rw [e]; exact h6 k hk⟩
  rcases Nat.lt_or_ge z' z with h | h
  · exact h1 z' h id hid
  · obtain rfl : z' = z := by omega
    exact h2 id (by rw [List.take_of_length_le hj]; exact hid)
theorem upto_succ {s : St} {z j : Nat} (hj : j < (s.ls z).length) : upto s z (j + 1) = upto s z j ++ [(s.ls z).getD j 0] := by
  rw [upto, upto, List.take_add_one, List.append_assoc, List.getElem?_eq_getElem hj, List.getD, List.getElem?_eq_getElem hj]; rfl
theorem Zi_step {s : St} {z j : Nat} {seen : List Bool} {c : Nat} (h : Zi s z j seen c) (hj : j < (s.ls z).length) (h0 : 0 ≤ (s.ls z).getD j 0) (hn : (s.ls z).getD j 0 < s.objs.length) (hs : ¬ seen.getD ((s.ls z).getD j 0).toNat false = true)
    (hz : (s.objs.getD ((s.ls z).getD j 0).toNat o0) 3 = z) (hst : stn (s.objs.getD ((s.ls z).getD j 0).toNat o0) z) : Zi s z (j + 1) (seen.set ((s.ls z).getD j 0).toNat true) (c + 1) := by
  obtain ⟨h1, h2, h3, h4, h5, h6⟩ := h
  have hm : ¬ (s.ls z).getD j 0 ∈ upto s z j := fun hm => hs ((h6 _ (by omega)).2 (by rw [Int.toNat_of_nonneg h0]; exact hm))
  refine ⟨h1, fun id hid => ?_, ?_, ?_, by simp [h5], fun k hk => ?_⟩
  · rw [List.take_add_one] at hid
    simp only [List.mem_append] at hid
    rcases hid with hid | hid
    · exact h2 id hid
    · have : id = (s.ls z).getD j 0 := by simpa [List.getD, hj, eq_comm] using hid
      subst this
      exact ⟨h0, hn, hz, hst⟩
  · rw [upto_succ hj, List.nodup_append]
    refine ⟨h3, by simp, fun a ha b hb => ?_⟩
    simp only [List.mem_singleton] at hb
    subst hb
    intro e; subst e; exact hm ha
  · rw [upto_succ hj]; simp [h4]
  · rw [upto_succ hj, List.mem_append, List.mem_singleton, ← h6 k hk]
    by_cases e : k = ((s.ls z).getD j 0).toNat
    · subst e
      have : ((s.ls z).getD j 0).toNat < seen.length := by omega
      constructor
      · intro _; right; exact Int.toNat_of_nonneg h0
      · intro _; rw [List.getD, List.getElem?_set_self this]; rfl
    · have e2 : ¬ (k : Int) = (s.ls z).getD j 0 := by omega
      constructor
      · intro h; left
        rw [List.getD, List.getElem?_set_ne (fun h => e h.symm)] at h
        exact h
      · rintro (h | h)
        · rw [List.getD, List.getElem?_set_ne (fun h => e h.symm)]; exact h
        · exact absurd h e2
theorem Zi_fail {s : St} {z j : Nat} {seen : List Bool} {c : Nat} (hh : zonesI s) (h : Zi s z j seen c) (hz : z < 11) (hj : j < (s.ls z).length) :
    0 ≤ (s.ls z).getD j 0 ∧ (s.ls z).getD j 0 < s.objs.length ∧ ¬ seen.getD ((s.ls z).getD j 0).toNat false = true ∧ (s.objs.getD ((s.ls z).getD j 0).toNat o0) 3 = z ∧ stn (s.objs.getD ((s.ls z).getD j 0).toNat o0) z := by
  obtain ⟨h1, h2, h3, h4, h5, h6⟩ := h
  obtain ⟨k1, k2, k3, k4⟩ := hh.1 z hz _ (show (s.ls z).getD j 0 ∈ s.ls z by simp [List.getD, hj])
  refine ⟨k1, k2, fun hs => ?_, k3, k4⟩
  have hm := (h6 _ (by omega)).1 hs
  rw [Int.toNat_of_nonneg k1] at hm
  have hp : upto s z (j + 1) <+: pre s 11 := by
    refine List.IsPrefix.trans ?_ (pre_prefix s (show z + 1 ≤ 11 by omega))
    rw [pre_succ]
    obtain ⟨t, ht⟩ := List.take_prefix (j + 1) (s.ls z)
    exact ⟨t, by rw [upto, List.append_assoc, ht]⟩
  have hnd : (upto s z (j + 1)).Nodup := hh.2.1.sublist hp.sublist
  rw [upto_succ hj, List.nodup_append] at hnd
  exact hnd.2.2 _ hm _ (by simp) rfl
theorem Zi_end {s : St} {z : Nat} {seen : List Bool} {c : Nat} (h : Zi s z 0 seen c) (hz : z = 11) : zonesI s ↔ c = s.objs.length := by
  subst hz
  obtain ⟨h1, h2, h3, h4, h5, h6⟩ := h
  have e : upto s 11 0 = pre s 11 := by simp [upto]
  rw [e] at h3 h4
  subst h4
  exact ⟨fun h => h.2.2, fun h => ⟨h1, h3, h⟩⟩
theorem pre_le {s : St} (hw : wf s) : ∀ z, (pre s z).length ≤ z * 100000
  | 0 => by simp [pre]
  | z + 1 => by rw [pre_succ, List.length_append]; have := pre_le hw z; have := hw.2 z; omega
theorem Zi_bound {s : St} (hw : wf s) {z j : Nat} {seen : List Bool} {c : Nat} (h : Zi s z j seen c) (hz : z ≤ 11) : c ≤ 1300000 ∧ seen.length = s.objs.length := by
  refine ⟨?_, h.2.2.2.2.1⟩
  rw [h.2.2.2.1, upto, List.length_append, List.length_take]
  have := pre_le hw z
  have := hw.2 z
  omega
end Go.Abs.Z
namespace Go.Abs.Z
open Go Go.Abs Go.Proofs
set_option maxHeartbeats 1000000 in
theorem zones_w : ∀ k (s : St) σ, wf s → 300000 ≤ k → readW (callW Tryz.prog (exec Tryz.prog cfg k)) 79 [.agg (cS s)] σ = some (.bool (decide (zonesI s)), σ) := by
 intro k s σ hyp0 hk
 obtain ⟨k, rfl⟩ : ∃ k', k = k' + 60 := ⟨k - 60, by omega⟩
 have hw1 := hyp0.1
 have hw2 := hyp0.2
 have hlm : ((s.objs).map E).length = s.objs.length := List.length_map _
 have hll : ∀ z, ((s.ls z).map I).length = (s.ls z).length := fun z => List.length_map _
 refine reader_of Tryz.func79 rfl (by simp only [AV.frees, AV.free, fr_I, fr_E, fr_cO, fr_cL, fr_cS, Bool.and_self]) ?_
 refine X.seq (X.region (OK.seg 2 (by kernel_rfl) (OK.nil ?_)))
 refine X.seq (X.region (OK.seg 3 (by kernel_rfl) ?_))
 refine OK.opS (.sl 1 0 0 (((s.objs).map E).length)) [.box (cS s) false, .rows ((List.replicate (((s.objs).map E).length) false).map B) 0 1 false] (by kernel_rfl) (mk_op (g := B) (n := ((s.objs).map E).length) (x := false) (by_ := 1) rfl Tryz.underlying183 (by kernel_rfl) (by kernel_rfl) (by kernel_rfl) (by kernel_rfl) (by kernel_rfl) (by kernel_rfl) (by omega) (by omega) (by kernel_rfl) (by kernel_rfl)) ?_
 refine OK.seg 1 (by kernel_rfl) (OK.nil ?_)
 refine X.seq (X.region (OK.seg 1 (by kernel_rfl) (OK.nil ?_)))
 refine X.seq (X.seq (X.region (OK.seg 3 (by kernel_rfl) (OK.nil ?_))))
 refine X.block ?_
 refine X.rounds3 (K := 250000) [2, 5, 6, 8, 9, 17, 18, 19, 20, 21, 22, 23, 24, 25, 26, 27, 28, 29, 30, 31, 32, 33, 34, 35, 36, 37, 38, 39, 40, 41, 42, 43, 44, 45, 46, 47, 48, 49, 50, 51, 52, 53, 54, 55, 56, 57, 58, 59, 60, 61] (by kernel_rfl) rfl (fun m fr σ => ∃ z : Nat, ∃ seen : List Bool, ∃ c : Nat, m = 11 - z ∧ clearA' [2, 5, 6, 8, 9, 17, 18, 19, 20, 21, 22, 23, 24, 25, 26, 27, 28, 29, 30, 31, 32, 33, 34, 35, 36, 37, 38, 39, 40, 41, 42, 43, 44, 45, 46, 47, 48, 49, 50, 51, 52, 53, 54, 55, 56, 57, 58, 59, 60, 61] fr = ([.agg (cS s), .ptr 0 0, .opq, .sl 1 0 0 (((s.objs).map E).length), I ((c : Nat) : Int), .opq, .opq, undefA, .opq, .opq, .ptr 0 0, .list ((s.objs).map E) false, I ((((s.objs).map E).length : Nat) : Int), .sl 1 0 0 (((s.objs).map E).length), .ptr 0 1, .agg (cL s.ls), I ((z : Nat) : Int)] ++ List.replicate 45 .opq ++ List.replicate 4 undefA : List AV) ∧ σ = [.box (cS s) false, .rows ((seen).map B) 0 1 false] ∧ (z ≤ 11 ∧ Zi s z 0 seen c)) ?_ (m := 11) ⟨0, List.replicate (((s.objs).map E).length) false, 0, by first | rfl | omega, by kernel_rfl, by kernel_rfl, by exact ⟨by omega, Zi_init s (by simp)⟩⟩ ?_
 rotate_left
 · omega
 rintro m4 fr σ ⟨z, seen, c, h2, h3, rfl, h1⟩ k h4
 rw [h3]; clear h3
 have hlz := hll z; have hwz := hw2 z; have hzb := Zi_bound hyp0 h1.2 (by omega)
 obtain ⟨k, rfl⟩ : ∃ k', k = k' + 60 := ⟨k - 60, by omega⟩
 refine X.seq (X.region ?_)
 refine OK.dec (((z : Nat) : Int) < 11) (by kernel_rfl) (by kernel_rfl) (fun h5 => ?_) (fun h5 => ?_)
 rotate_left
 ·
  refine OK.nil ?_
  refine X.seq (X.condF (by kernel_rfl) ?_)
  refine X.exit ?_
  show X _ _ _ _ _ _ _ _ _
  refine X.seq (X.region (OK.seg 3 (by kernel_rfl) ?_))
  refine OK.dec (((c : Nat) : Int) = (((((s.objs).map E).length) : Nat) : Int)) (by kernel_rfl) (by kernel_rfl) (fun h16 => ?_) (fun h16 => ?_)
  ·
   refine OK.seg 1 (by kernel_rfl) (OK.nil ?_)
   refine X.ret ?_
   exact ⟨rfl, giv (r := .bool true) (by kernel_rfl) (bool_t (p := zonesI s) (by exact (Zi_end h1.2 (by omega)).2 (by omega)))⟩
  refine OK.seg 1 (by kernel_rfl) (OK.nil ?_)
  refine X.ret ?_
  exact ⟨rfl, giv (r := .bool false) (by kernel_rfl) (bool_f (p := zonesI s) (by intro hh; have q := (Zi_end h1.2 (by omega)).1 hh; omega))⟩
 refine OK.nil ?_
 refine X.seq (X.condT (by kernel_rfl) ?_)
 refine X.skip (X.seq (X.block (X.seq (X.region (OK.seg 1 (by kernel_rfl) ?_)))))
 refine OK.val (.list ((s.ls z).map I) false) (by kernel_rfl) (fun _ => arr_op (k := .i64) (n := ((z : Nat) : Int)) rfl Tryz.underlying24 (by kernel_rfl) (by kernel_rfl) (by kernel_rfl) (by kernel_rfl) (by omega) (by omega) (cL_at s.ls z (by omega))) ?_
 refine OK.seg 2 (by kernel_rfl) (OK.nil ?_)
 refine X.seq (X.region (OK.seg 3 (by kernel_rfl) (OK.nil ?_)))
 refine X.block ?_
 refine X.rounds3 (K := 500) [2, 8, 9, 23, 24, 25, 26, 27, 28, 29, 30, 31, 32, 33, 34, 35, 36, 37, 38, 39, 40, 41, 42, 43, 44, 45, 46, 47, 48, 49, 50, 51, 52, 53, 54, 55, 56, 57, 58, 59, 60] (by kernel_rfl) rfl (fun m fr σ => ∃ j : Nat, ∃ seem : List Bool, ∃ d : Nat, m = (s.ls z).length - j ∧ clearA' [2, 8, 9, 23, 24, 25, 26, 27, 28, 29, 30, 31, 32, 33, 34, 35, 36, 37, 38, 39, 40, 41, 42, 43, 44, 45, 46, 47, 48, 49, 50, 51, 52, 53, 54, 55, 56, 57, 58, 59, 60] fr = ([.agg (cS s), .ptr 0 0, .opq, .sl 1 0 0 (((s.objs).map E).length), I ((d : Nat) : Int), I ((z : Nat) : Int), .list ((s.ls z).map I) false, undefA, .opq, .opq, .ptr 0 0, .list ((s.objs).map E) false, I ((((s.objs).map E).length : Nat) : Int), .sl 1 0 0 (((s.objs).map E).length), .ptr 0 1, .agg (cL s.ls), I ((z : Nat) : Int), .bool true, I ((z : Nat) : Int), .list ((s.ls z).map I) false, .list ((s.ls z).map I) false, I ((((s.ls z).map I).length : Nat) : Int), I ((j : Nat) : Int)] ++ List.replicate 39 .opq ++ List.replicate 4 undefA : List AV) ∧ σ = [.box (cS s) false, .rows ((seem).map B) 0 1 false] ∧ (j ≤ (s.ls z).length ∧ Zi s z j seem d)) ?_ (m := (s.ls z).length) ⟨0, seen, c, by first | rfl | omega, by kernel_rfl, by kernel_rfl, by exact ⟨by omega, h1.2⟩⟩ ?_
 rotate_left
 · have q := hw2 z; omega
 rintro m9 fr σ ⟨j, seem, d, h7, h8, rfl, h6⟩ k h9
 rw [h8]; clear h8
 have hzb := Zi_bound hyp0 h6.2 (by omega)
 obtain ⟨k, rfl⟩ : ∃ k', k = k' + 60 := ⟨k - 60, by omega⟩
 refine X.seq (X.region ?_)
 refine OK.dec (((j : Nat) : Int) < ((((s.ls z).map I).length : Nat) : Int)) (by kernel_rfl) (by kernel_rfl) (fun h10 => ?_) (fun h10 => ?_)
 rotate_left
 ·
  refine OK.nil ?_
  refine X.seq (X.condF (by kernel_rfl) ?_)
  refine X.exit ?_
  show X _ _ _ _ _ _ _ _ _
  refine X.region ?_
  refine OK.val (I ((z + 1 : Nat) : Int)) (by kernel_rfl) (fun _ => add_op (k := .i64) (a := ((z : Nat) : Int)) (b := 1) rfl (by kernel_rfl) (by kernel_rfl) (by rw [wrap64] <;> omega)) ?_
  refine OK.seg 1 (by kernel_rfl) (OK.nil ?_)
  refine ⟨([.agg (cS s), .ptr 0 0, .opq, .sl 1 0 0 (((s.objs).map E).length), I ((d : Nat) : Int), .opq, .opq, undefA, .opq, .opq, .ptr 0 0, .list ((s.objs).map E) false, I ((((s.objs).map E).length : Nat) : Int), .sl 1 0 0 (((s.objs).map E).length), .ptr 0 1, .agg (cL s.ls), I ((z + 1 : Nat) : Int)] ++ List.replicate 45 .opq ++ List.replicate 4 undefA : List AV), [.box (cS s) false, .rows ((seem).map B) 0 1 false], [0, 1, 0, 1, 0], [[], []], by kernel_rfl, by kernel_rfl, by simp only [bS], by simp only [bS], by kernel_rfl, m4 - 1, by omega, z + 1, seem, d, by first | rfl | omega, by kernel_rfl, by kernel_rfl, ?_⟩
  exact ⟨by omega, Zi_next h6.2 (by omega)⟩
 refine OK.nil ?_
 refine X.seq (X.condT (by kernel_rfl) ?_)
 refine X.skip (X.seq (X.block (X.seq (X.region ?_))))
 refine OK.val (.ro [I (((s.ls z).getD j 0))] 0) (by kernel_rfl) (fun _ => idx_map (sz := 1) (g := I) (d := 0) (xs := s.ls z) (ex := false) (k := .i64) (n := ((j : Nat) : Int)) rfl Tryz.underlying23 (by kernel_rfl) (by kernel_rfl) (by kernel_rfl) (by kernel_rfl) (by omega) (by omega)) ?_
 refine OK.seg 2 (by kernel_rfl) (OK.nil ?_)
 refine X.seq (X.seq (X.region (OK.seg 1 (by kernel_rfl) ?_)))
 refine OK.dec ((((s.ls z).getD j 0)) < 0) (by kernel_rfl) (by kernel_rfl) (fun h11 => ?_) (fun h11 => ?_)
 ·
  refine OK.seg 12 (by kernel_rfl) (OK.nil ?_)
  refine X.condT (by kernel_rfl) ?_
  refine X.seq (X.region (OK.seg 1 (by kernel_rfl) (OK.nil ?_)))
  refine X.ret ?_
  exact ⟨rfl, giv (r := .bool false) (by kernel_rfl) (bool_f (p := zonesI s) (by intro hh; obtain ⟨q1, q2, q3, q4, q5⟩ := Zi_fail hh h6.2 (by omega) (by omega); first | contradiction | omega))⟩
 refine OK.seg 4 (by kernel_rfl) ?_
 refine OK.dec ((((s.ls z).getD j 0)) ≥ (((((s.objs).map E).length) : Nat) : Int)) (by kernel_rfl) (by kernel_rfl) (fun h12 => ?_) (fun h12 => ?_)
 ·
  refine OK.seg 7 (by kernel_rfl) (OK.nil ?_)
  refine X.condT (by kernel_rfl) ?_
  refine X.seq (X.region (OK.seg 1 (by kernel_rfl) (OK.nil ?_)))
  refine X.ret ?_
  exact ⟨rfl, giv (r := .bool false) (by kernel_rfl) (bool_f (p := zonesI s) (by intro hh; obtain ⟨q1, q2, q3, q4, q5⟩ := Zi_fail hh h6.2 (by omega) (by omega); first | contradiction | omega))⟩
 refine OK.seg 4 (by kernel_rfl) ?_
 refine OK.val (.eptr 1 0 (((s.ls z).getD j 0)).toNat 0) (by kernel_rfl) (fun _ => idx_sl (xs := seem) (g := B) (fz := false) (b := 1) (gn := 0) (len := (((s.objs).map E).length)) (k := .i64) (sz := 1) (n := (((s.ls z).getD j 0))) rfl Tryz.underlying183 (by kernel_rfl) (by kernel_rfl) (by kernel_rfl) (by kernel_rfl) (by omega) (by omega)) ?_
 refine OK.dec ((seem).getD (((s.ls z).getD j 0)).toNat false = true) (by kernel_rfl) (load_epB (b := 1) (gn := 0) (i := (((s.ls z).getD j 0)).toNat) (sz := 1) (xs := seem) (fz := false) rfl (by kernel_rfl) (by kernel_rfl) (by omega) (by kernel_rfl)) (fun h13 => ?_) (fun h13 => ?_)
 ·
  refine OK.seg 1 (by kernel_rfl) (OK.nil ?_)
  refine X.condT (by kernel_rfl) ?_
  refine X.seq (X.region (OK.seg 1 (by kernel_rfl) (OK.nil ?_)))
  refine X.ret ?_
  exact ⟨rfl, giv (r := .bool false) (by kernel_rfl) (bool_f (p := zonesI s) (by intro hh; obtain ⟨q1, q2, q3, q4, q5⟩ := Zi_fail hh h6.2 (by omega) (by omega); first | contradiction | omega))⟩
 refine OK.seg 1 (by kernel_rfl) (OK.nil ?_)
 refine X.condF (by kernel_rfl) ?_
 refine X.skip (X.seq (X.region (OK.seg 3 (by kernel_rfl) ?_)))
 refine OK.val (.ro (cO ((s.objs).getD (((s.ls z).getD j 0)).toNat o0)) 0) (by kernel_rfl) (fun _ => idx_map (sz := 18) (g := E) (d := o0) (xs := s.objs) (ex := false) (k := .i64) (n := (((s.ls z).getD j 0))) rfl Tryz.underlying22 (by kernel_rfl) (by kernel_rfl) (by kernel_rfl) (by kernel_rfl) (by omega) (by omega)) ?_
 refine OK.seg 3 (by kernel_rfl) (OK.nil ?_)
 refine X.seq (X.seq (X.region (OK.seg 3 (by kernel_rfl) ?_)))
 refine OK.ndec ((((s.objs).getD (((s.ls z).getD j 0)).toNat o0) 3) = ((z : Nat) : Int)) (by kernel_rfl) (by kernel_rfl) (fun h14 => ?_) (fun h14 => ?_)
 ·
  refine OK.seg 6 (by kernel_rfl) (OK.nil ?_)
  refine X.condT (by kernel_rfl) ?_
  refine X.seq (X.region (OK.seg 1 (by kernel_rfl) (OK.nil ?_)))
  refine X.ret ?_
  exact ⟨rfl, giv (r := .bool false) (by kernel_rfl) (bool_f (p := zonesI s) (by intro hh; obtain ⟨q1, q2, q3, q4, q5⟩ := Zi_fail hh h6.2 (by omega) (by omega); first | contradiction | omega))⟩
 refine OK.seg 3 (by kernel_rfl) ?_
 refine OK.rdP [.agg (cO ((s.objs).getD (((s.ls z).getD j 0)).toNat o0)), I ((z : Nat) : Int)] [.agg (cO ((s.objs).getD (((s.ls z).getD j 0)).toNat o0)), I ((z : Nat) : Int)] (stn ((s.objs).getD (((s.ls z).getD j 0)).toNat o0) z) rfl (by kernel_rfl) rfl (by kernel_rfl) (by kernel_rfl) (by kernel_rfl) (by kernel_rfl) (by kernel_rfl) (stands_w _ (by omega) _ _ _ (by omega)) (fun h15 => ?_) (fun h15 => ?_)
 rotate_left
 ·
  refine OK.seg 2 (by kernel_rfl) (OK.nil ?_)
  refine X.condT (by kernel_rfl) ?_
  refine X.seq (X.region (OK.seg 1 (by kernel_rfl) (OK.nil ?_)))
  refine X.ret ?_
  exact ⟨rfl, giv (r := .bool false) (by kernel_rfl) (bool_f (p := zonesI s) (by intro hh; obtain ⟨q1, q2, q3, q4, q5⟩ := Zi_fail hh h6.2 (by omega) (by omega); first | contradiction | omega))⟩
 refine OK.seg 2 (by kernel_rfl) (OK.nil ?_)
 refine X.condF (by kernel_rfl) ?_
 refine X.skip (X.seq (X.region (OK.seg 2 (by kernel_rfl) ?_)))
 refine OK.val (.eptr 1 0 (((s.ls z).getD j 0)).toNat 0) (by kernel_rfl) (fun _ => idx_sl (xs := seem) (g := B) (fz := false) (b := 1) (gn := 0) (len := (((s.objs).map E).length)) (k := .i64) (sz := 1) (n := (((s.ls z).getD j 0))) rfl Tryz.underlying183 (by kernel_rfl) (by kernel_rfl) (by kernel_rfl) (by kernel_rfl) (by omega) (by omega)) ?_
 refine OK.opS (undefA) [.box (cS s) false, .rows (((seem).set (((s.ls z).getD j 0)).toNat true).map B) 0 1 false, .box (cO ((s.objs).getD (((s.ls z).getD j 0)).toNat o0)) false] (by kernel_rfl) (st_ep (b := 1) (gn := 0) (i := (((s.ls z).getD j 0)).toNat) (sz := 1) (xs := seem) (w := .bool true) (g := B) (d := false) (y := true) rfl (by kernel_rfl) (by kernel_rfl) (by kernel_rfl) (by omega) (Nat.zero_le _) (by kernel_rfl) (by kernel_rfl) (by kernel_rfl) (by kernel_rfl) (by kernel_rfl) (by kernel_rfl)) ?_
 refine OK.nil ?_
 refine X.region (OK.seg 1 (by kernel_rfl) ?_)
 refine OK.val (I ((d + 1 : Nat) : Int)) (by kernel_rfl) (fun _ => add_op (k := .i64) (a := ((d : Nat) : Int)) (b := 1) rfl (by kernel_rfl) (by kernel_rfl) (by rw [wrap64] <;> omega)) ?_
 refine OK.seg 1 (by kernel_rfl) (OK.nil ?_)
 refine X.region ?_
 refine OK.val (I ((j + 1 : Nat) : Int)) (by kernel_rfl) (fun _ => add_op (k := .i64) (a := ((j : Nat) : Int)) (b := 1) rfl (by kernel_rfl) (by kernel_rfl) (by rw [wrap64] <;> omega)) ?_
 refine OK.seg 1 (by kernel_rfl) (OK.nil ?_)
 refine ⟨([.agg (cS s), .ptr 0 0, .opq, .sl 1 0 0 (((s.objs).map E).length), I ((d + 1 : Nat) : Int), I ((z : Nat) : Int), .list ((s.ls z).map I) false, undefA, .opq, .opq, .ptr 0 0, .list ((s.objs).map E) false, I ((((s.objs).map E).length : Nat) : Int), .sl 1 0 0 (((s.objs).map E).length), .ptr 0 1, .agg (cL s.ls), I ((z : Nat) : Int), .bool true, I ((z : Nat) : Int), .list ((s.ls z).map I) false, .list ((s.ls z).map I) false, I ((((s.ls z).map I).length : Nat) : Int), I ((j + 1 : Nat) : Int)] ++ List.replicate 39 .opq ++ List.replicate 4 undefA : List AV), [.box (cS s) false, .rows (((seem).set (((s.ls z).getD j 0)).toNat true).map B) 0 1 false, .box (cO ((s.objs).getD (((s.ls z).getD j 0)).toNat o0)) false], [0, 1, 0, 1, 0], [[], [], []], by kernel_rfl, by kernel_rfl, by simp only [bS], by simp only [bS], by kernel_rfl, m9 - 1, by omega, j + 1, (seem).set (((s.ls z).getD j 0)).toNat true, d + 1, by first | rfl | omega, by kernel_rfl, by kernel_rfl, ?_⟩
 exact ⟨by omega, Zi_step h6.2 (by omega) (by omega) (by omega) (by assumption) (by assumption) (by assumption)⟩
end Go.Abs.Z
namespace Go.Abs.Z
open Go Go.Abs Go.Proofs
def rng (s : St) (id : Int) : Prop := 0 ≤ id ∧ id < s.objs.length
def Ri (s : St) (z j : Nat) : Prop := (∀ z' < z, ∀ id ∈ s.ls z', rng s id) ∧ ∀ id ∈ (s.ls z).take j, rng s id
def oc (o : Ob) : Prop := (o 3 < 8 → o 1 = Int.tmod (o 3) 2 ∧ o 13 = 0) ∧ (o 3 = 8 → o 13 ≠ 2)
def obOk (s : St) (i : Nat) : Prop := (pre s 11).count (i : Int) = 1 ∧ (∀ z < 11, (i : Int) ∈ s.ls z → (z : Int) = (s.objs.getD i o0) 3) ∧ oc (s.objs.getD i o0)
def zonesR (s : St) : Prop := (∀ z < 11, ∀ id ∈ s.ls z, rng s id) ∧ ∀ i < s.objs.length, obOk s i
noncomputable instance (s : St) : Decidable (zonesR s) := Classical.propDecidable _
theorem Ri_init (s : St) : Ri s 0 0 := ⟨fun _ h => absurd h (Nat.not_lt_zero _), by simp⟩
theorem Ri_next {s : St} {z j : Nat} (h : Ri s z j) (hj : (s.ls z).length ≤ j) : Ri s (z + 1) 0 := by
  refine ⟨fun z' hz' id hid => ?_, by simp⟩
  rcases Nat.lt_or_ge z' z with h1 | h1
  · exact h.1 z' h1 id hid
  · obtain rfl : z' = z := by omega
    exact h.2 id (by rw [List.take_of_length_le hj]; exact hid)
theorem mem_take_succ {xs : List Int} {j : Nat} (hj : j < xs.length) {x : Int} : x ∈ xs.take (j + 1) ↔ x ∈ xs.take j ∨ x = xs.getD j 0 := by
  have e : xs.take (j + 1) = xs.take j ++ [xs.getD j 0] := by rw [List.take_add_one, List.getElem?_eq_getElem hj, List.getD, List.getElem?_eq_getElem hj]; rfl
  rw [e, List.mem_append, List.mem_singleton]
theorem Ri_step {s : St} {z j : Nat} (h : Ri s z j) (hj : j < (s.ls z).length) (h1 : 0 ≤ (s.ls z).getD j 0) (h2 : (s.ls z).getD j 0 < s.objs.length) : Ri s z (j + 1) := by
  refine ⟨h.1, fun id hid => ?_⟩
  rcases (mem_take_succ hj).1 hid with h3 | h3
  · exact h.2 id h3
  · subst h3; exact ⟨h1, h2⟩
theorem Ri_fail {s : St} {z j : Nat} (hh : zonesR s) (hz : z < 11) (hj : j < (s.ls z).length) : 0 ≤ (s.ls z).getD j 0 ∧ (s.ls z).getD j 0 < s.objs.length := hh.1 z hz _ (by simp [List.getD, hj])
def Ti (s : St) (i z j c : Nat) : Prop := (∀ z' < z, (i : Int) ∈ s.ls z' → (z' : Int) = (s.objs.getD i o0) 3) ∧ ((i : Int) ∈ (s.ls z).take j → (z : Int) = (s.objs.getD i o0) 3) ∧ c = (upto s z j).count (i : Int)
theorem Ti_init (s : St) (i : Nat) : Ti s i 0 0 0 := ⟨fun _ h => absurd h (Nat.not_lt_zero _), by simp, by simp [upto, pre]⟩
theorem Ti_next {s : St} {i z j c : Nat} (h : Ti s i z j c) (hj : (s.ls z).length ≤ j) : Ti s i (z + 1) 0 c := by
  have e : upto s (z + 1) 0 = upto s z j := by simp [upto, pre_succ, List.take_of_length_le hj]
  refine ⟨fun z' hz' hid => ?_, by simp, by rw [e]; exact h.2.2⟩
  rcases Nat.lt_or_ge z' z with h1 | h1
  · exact h.1 z' h1 hid
  · obtain rfl : z' = z := by omega
    exact h.2.1 (by rw [List.take_of_length_le hj]; exact hid)
theorem Ti_hit {s : St} {i z j c : Nat} (h : Ti s i z j c) (hj : j < (s.ls z).length) (he : (s.ls z).getD j 0 = i) (hz : (z : Int) = (s.objs.getD i o0) 3) : Ti s i z (j + 1) (c + 1) :=
  ⟨h.1, fun _ => hz, by rw [upto_succ hj, List.count_append, ← h.2.2, he]; simp⟩
theorem Ti_miss {s : St} {i z j c : Nat} (h : Ti s i z j c) (hj : j < (s.ls z).length) (he : ¬ (s.ls z).getD j 0 = i) : Ti s i z (j + 1) c :=
  ⟨h.1, fun hm => h.2.1 (((mem_take_succ hj).1 hm).resolve_right fun e => he e.symm), by rw [upto_succ hj, List.count_append, ← h.2.2, List.count_eq_zero_of_not_mem (by simpa using fun e => he e.symm)]; rfl⟩
theorem Ti_bound {s : St} (hw : wf s) {i z j c : Nat} (h : Ti s i z j c) (hz : z ≤ 11) : c ≤ 1300000 := by
  rw [h.2.2]
  refine Nat.le_trans List.count_le_length ?_
  rw [upto, List.length_append, List.length_take]
  have := pre_le hw z
  have := hw.2 z
  omega
theorem Ti_end {s : St} {i z c : Nat} (h : Ti s i z 0 c) (hz : z = 11) (hc : c = 1) (ho : oc (s.objs.getD i o0)) : obOk s i := by
  subst hz
  refine ⟨?_, h.1, ho⟩
  have := h.2.2
  simp only [upto, List.take_zero, List.append_nil] at this
  omega
theorem Ti_fail1 {s : St} {i z j c : Nat} (hh : zonesR s) (h : Ti s i z j c) (hi : i < s.objs.length) (hz : z < 11) (hj : j < (s.ls z).length) (he : (s.ls z).getD j 0 = i) : (z : Int) = (s.objs.getD i o0) 3 :=
  (hh.2 i hi).2.1 z hz (by rw [← he]; simp [List.getD, hj])
theorem Ti_fail2 {s : St} {i z c : Nat} (hh : zonesR s) (h : Ti s i z 0 c) (hi : i < s.objs.length) (hz : z = 11) : c = 1 ∧ oc (s.objs.getD i o0) := by
  subst hz
  refine ⟨?_, (hh.2 i hi).2.2⟩
  have := h.2.2
  simp only [upto, List.take_zero, List.append_nil] at this
  have := (hh.2 i hi).1
  omega
theorem mem_pre {s : St} {x : Int} {z : Nat} : x ∈ pre s z ↔ ∃ w, w < z ∧ x ∈ s.ls w := by
  simp [pre, List.mem_flatMap, List.mem_range]
theorem len_of_counts : ∀ (n : Nat) (xs : List Int), (∀ x ∈ xs, 0 ≤ x ∧ x < n) → (∀ i < n, xs.count (i : Int) = 1) → xs.length = n
  | 0, xs, h, _ => by
    cases xs with
    | nil => rfl
    | cons x xs => have := h x (by simp); omega
  | n + 1, xs, h, hc => by
    have hm : (n : Int) ∈ xs := List.count_pos_iff.1 (by rw [hc n (by omega)]; omega)
    have he := List.length_erase_of_mem hm
    have hp : 0 < xs.length := List.length_pos_of_mem hm
    have ih := len_of_counts n (xs.erase (n : Int)) (fun x hx => by
      have h1 := h x (List.mem_of_mem_erase hx)
      have : x ≠ n := fun e => by
        subst e
        have := List.count_pos_iff.2 hx
        rw [List.count_erase_self, hc n (by omega)] at this
        omega
      omega) (fun i hi => by rw [List.count_erase_of_ne (by omega)]; exact hc i (by omega))
    omega
theorem mem_of_nodup : ∀ (n : Nat) (xs : List Int), (∀ x ∈ xs, 0 ≤ x ∧ x < n) → xs.Nodup → xs.length = n → ∀ i < n, (i : Int) ∈ xs
  | 0, _, _, _, _, i, hi => absurd hi (Nat.not_lt_zero _)
  | n + 1, xs, h, hn, hl, i, hi => by
    by_cases hm : (n : Int) ∈ xs
    · have he := List.length_erase_of_mem hm
      rcases Nat.lt_or_ge i n with h1 | h1
      · exact List.mem_of_mem_erase (mem_of_nodup n (xs.erase (n : Int)) (fun x hx => by
          have h1 := h x (List.mem_of_mem_erase hx)
          have : x ≠ n := (hn.mem_erase_iff.1 hx).1
          omega) (hn.erase _) (by omega) i h1)
      · rw [show i = n by omega]; exact hm
    · exfalso
      have hp : ∀ x ∈ xs, 0 ≤ x ∧ x < n := fun x hx => by
        have h1 := h x hx
        have : x ≠ n := fun e => hm (e ▸ hx)
        omega
      cases xs with
      | nil => simp at hl
      | cons x xs =>
        have hn' := List.nodup_cons.1 hn
        have h2 := mem_of_nodup n xs (fun y hy => hp y (by simp [hy])) hn'.2 (by simpa using hl) x.toNat (by have := hp x (by simp); omega)
        rw [Int.toNat_of_nonneg (hp x (by simp)).1] at h2
        exact hn'.1 h2
theorem stn_oc {o : Ob} {z : Nat} (hz : o 3 = z) : stn o z ↔ oc o := by
  unfold stn oc
  rw [hz, Int.tmod_eq_emod_of_nonneg (by omega)]
  constructor
  · rintro ⟨h1, h2⟩
    exact ⟨fun h => h1 (by omega), fun h => h2 (by omega)⟩
  · rintro ⟨h1, h2⟩
    exact ⟨fun h => h1 (by omega), fun h => h2 (by omega)⟩
theorem zones_iff (s : St) : zonesI s ↔ zonesR s := by
  constructor
  · rintro ⟨h1, h2, h3⟩
    have hin : ∀ x ∈ pre s 11, 0 ≤ x ∧ x < (s.objs.length : Int) := fun x hx => by
      obtain ⟨w, hw, hx⟩ := mem_pre.1 hx
      exact ⟨(h1 w hw x hx).1, (h1 w hw x hx).2.1⟩
    refine ⟨fun z hz id hid => ⟨(h1 z hz id hid).1, (h1 z hz id hid).2.1⟩, fun i hi => ?_⟩
    have hm := mem_of_nodup _ _ hin h2 h3 i hi
    refine ⟨?_, fun z hz hid => (h1 z hz _ hid).2.2.1.symm, ?_⟩
    · have h4 := List.nodup_iff_count.1 h2 (i : Int)
      have := List.count_pos_iff.2 hm
      omega
    · obtain ⟨w, hw, hx⟩ := mem_pre.1 hm
      have := (h1 w hw _ hx).2.2
      exact (stn_oc this.1).1 this.2
  · rintro ⟨h1, h2⟩
    have hin : ∀ x ∈ pre s 11, 0 ≤ x ∧ x < (s.objs.length : Int) := fun x hx => by
      obtain ⟨w, hw, hx⟩ := mem_pre.1 hx
      exact h1 w hw x hx
    refine ⟨fun z hz id hid => ?_, ?_, len_of_counts _ _ hin fun i hi => (h2 i hi).1⟩
    · obtain ⟨k1, k2⟩ := h1 z hz id hid
      have hk := h2 id.toNat (by omega)
      have e := hk.2.1 z hz (by rw [Int.toNat_of_nonneg k1]; exact hid)
      exact ⟨k1, k2, e.symm, (stn_oc e.symm).2 hk.2.2⟩
    · rw [List.nodup_iff_count]
      intro x
      by_cases hx : x ∈ pre s 11
      · obtain ⟨k1, k2⟩ := hin x hx
        have := (h2 x.toNat (by omega)).1
        rw [Int.toNat_of_nonneg k1] at this
        omega
      · rw [List.count_eq_zero_of_not_mem hx]; omega
theorem cS_at (s : St) (z : Nat) (h : z < 11) : (cS s)[1 + z]? = some (.list ((s.ls z).map I) false) := by
  rcases z with _|_|_|_|_|_|_|_|_|_|_|z <;> first | rfl | omega
end Go.Abs.Z
namespace Go.Abs.Z
open Go Go.Abs Go.Proofs
set_option maxHeartbeats 1000000 in
theorem rzones_w : ∀ k (s : St) σ, wf s → 1200000 ≤ k → readW (callW Tryz.prog (exec Tryz.prog cfg k)) 49 [.agg (cS s)] σ = some (.bool (decide (zonesR s)), σ) := by
 intro k s σ hyp0 hk
 obtain ⟨k, rfl⟩ : ∃ k', k = k' + 60 := ⟨k - 60, by omega⟩
 have hw1 := hyp0.1
 have hw2 := hyp0.2
 have hlm : ((s.objs).map E).length = s.objs.length := List.length_map _
 have hll : ∀ z, ((s.ls z).map I).length = (s.ls z).length := fun z => List.length_map _
 refine reader_of Tryz.func49 rfl (by simp only [AV.frees, AV.free, fr_I, fr_E, fr_cO, fr_cL, fr_cS, Bool.and_self]) ?_
 refine X.seq (X.region (OK.seg 2 (by kernel_rfl) (OK.nil ?_)))
 refine X.seq (X.seq (X.region (OK.seg 1 (by kernel_rfl) (OK.nil ?_))))
 refine X.block ?_
 refine X.rounds3 (K := 900000) [2, 5, 12, 13, 14, 15, 16, 17, 18, 19, 20, 21, 22, 23, 24, 25, 26, 27, 28, 29, 30, 31, 32, 33, 34] (by kernel_rfl) rfl (fun m fr σ => ∃ z : Nat, m = 11 - z ∧ clearA' [2, 5, 12, 13, 14, 15, 16, 17, 18, 19, 20, 21, 22, 23, 24, 25, 26, 27, 28, 29, 30, 31, 32, 33, 34] fr = ([.agg (cS s), .ptr 0 0, .opq, I ((z : Nat) : Int), undefA, .opq] ++ List.replicate 6 undefA ++ List.replicate 23 .opq ++ List.replicate 60 undefA : List AV) ∧ σ = [.box (cS s) false] ∧ (z ≤ 11 ∧ Ri s z 0)) ?_ (m := 11) ⟨0, by first | rfl | omega, by kernel_rfl, by kernel_rfl, by exact ⟨by omega, Ri_init s⟩⟩ ?_
 rotate_left
 · omega
 rintro m4 fr σ ⟨z, h2, h3, rfl, h1⟩ k h4
 rw [h3]; clear h3
 have hlz := hll z; have hwz := hw2 z
 obtain ⟨k, rfl⟩ : ∃ k', k = k' + 60 := ⟨k - 60, by omega⟩
 refine X.seq (X.seq (X.region (OK.seg 1 (by kernel_rfl) ?_)))
 refine OK.dec (((z : Nat) : Int) < 11) (by kernel_rfl) (by kernel_rfl) (fun h5 => ?_) (fun h5 => ?_)
 ·
  refine OK.nil ?_
  refine X.condT (by kernel_rfl) ?_
  refine X.skip (X.seq (X.block (X.seq (X.region (OK.seg 2 (by kernel_rfl) ?_)))))
  refine OK.val (.ptr 0 (1 + z)) (by kernel_rfl) (fun _ => arr_addr (b := 0) (off := 1) (n := z) rfl Tryz.underlying24 (by kernel_rfl) (by kernel_rfl) (by kernel_rfl) (by omega)) ?_
  refine OK.val (.list ((s.ls z).map I) false) (by kernel_rfl) (fun _ => load_at (b := 0) (off := (1 + z)) (cs := (cS s)) (fz := false) rfl (by kernel_rfl) (by kernel_rfl) (by kernel_rfl) (cS_at s z (by omega))) ?_
  refine OK.seg 2 (by kernel_rfl) (OK.nil ?_)
  refine X.block ?_
  refine X.rounds3 (K := 500) [2, 5, 22, 23, 24, 25, 26, 27, 28, 29, 30, 31, 32, 33, 34] (by kernel_rfl) rfl (fun m fr σ => ∃ j : Nat, m = (s.ls z).length - j ∧ clearA' [2, 5, 22, 23, 24, 25, 26, 27, 28, 29, 30, 31, 32, 33, 34] fr = ([.agg (cS s), .ptr 0 0, .opq, I ((z : Nat) : Int), undefA, .opq] ++ List.replicate 6 undefA ++ [I ((z : Nat) : Int), .bool true, .opq, .opq, I ((z : Nat) : Int), .ptr 0 1, .ptr 0 (1 + z), .list ((s.ls z).map I) false, I ((((s.ls z).map I).length : Nat) : Int), I ((j : Nat) : Int)] ++ List.replicate 13 .opq ++ List.replicate 60 undefA : List AV) ∧ σ = [.box (cS s) false] ∧ (j ≤ (s.ls z).length ∧ Ri s z j)) ?_ (m := (s.ls z).length) ⟨0, by first | rfl | omega, by kernel_rfl, by kernel_rfl, by exact ⟨by omega, h1.2⟩⟩ ?_
  rotate_left
  · omega
  rintro m9 fr σ ⟨j, h7, h8, rfl, h6⟩ k h9
  rw [h8]; clear h8
  obtain ⟨k, rfl⟩ : ∃ k', k = k' + 60 := ⟨k - 60, by omega⟩
  refine X.seq (X.region ?_)
  refine OK.dec (((j : Nat) : Int) < ((((s.ls z).map I).length : Nat) : Int)) (by kernel_rfl) (by kernel_rfl) (fun h10 => ?_) (fun h10 => ?_)
  rotate_left
  ·
   refine OK.nil ?_
   refine X.seq (X.condF (by kernel_rfl) ?_)
   refine X.exit ?_
   show X _ _ _ _ _ _ _ _ _
   refine X.region (OK.seg 1 (by kernel_rfl) ?_)
   refine OK.val (I ((z + 1 : Nat) : Int)) (by kernel_rfl) (fun _ => add_op (k := .i64) (a := ((z : Nat) : Int)) (b := 1) rfl (by kernel_rfl) (by kernel_rfl) (by rw [wrap64] <;> omega)) ?_
   refine OK.seg 1 (by kernel_rfl) (OK.nil ?_)
   refine ⟨([.agg (cS s), .ptr 0 0, .opq, I ((z + 1 : Nat) : Int), undefA, .opq] ++ List.replicate 6 undefA ++ List.replicate 23 .opq ++ List.replicate 60 undefA : List AV), [.box (cS s) false], [0], [[]], by kernel_rfl, by kernel_rfl, by simp only [bS], by simp only [bS], by kernel_rfl, m4 - 1, by omega, z + 1, by first | rfl | omega, by kernel_rfl, by kernel_rfl, ?_⟩
   exact ⟨by omega, Ri_next h6.2 (by omega)⟩
  refine OK.nil ?_
  refine X.seq (X.condT (by kernel_rfl) ?_)
  refine X.skip (X.seq (X.block (X.seq (X.region ?_))))
  refine OK.val (.ro [I (((s.ls z).getD j 0))] 0) (by kernel_rfl) (fun _ => idx_map (sz := 1) (g := I) (d := 0) (xs := s.ls z) (ex := false) (k := .i64) (n := ((j : Nat) : Int)) rfl Tryz.underlying23 (by kernel_rfl) (by kernel_rfl) (by kernel_rfl) (by kernel_rfl) (by omega) (by omega)) ?_
  refine OK.seg 2 (by kernel_rfl) (OK.nil ?_)
  refine X.seq (X.region (OK.seg 1 (by kernel_rfl) ?_))
  refine OK.dec ((((s.ls z).getD j 0)) < 0) (by kernel_rfl) (by kernel_rfl) (fun h11 => ?_) (fun h11 => ?_)
  ·
   refine OK.seg 7 (by kernel_rfl) (OK.nil ?_)
   refine X.condT (by kernel_rfl) ?_
   refine X.seq (X.region (OK.seg 1 (by kernel_rfl) (OK.nil ?_)))
   refine X.ret ?_
   exact ⟨rfl, giv (r := .bool false) (by kernel_rfl) (bool_f (p := zonesR s) (by intro hh; have q := Ri_fail hh (by omega : z < 11) (by omega : j < _); omega))⟩
  refine OK.seg 5 (by kernel_rfl) ?_
  refine OK.dec ((((s.ls z).getD j 0)) ≥ ((((s.objs).map E).length : Nat) : Int)) (by kernel_rfl) (by kernel_rfl) (fun h12 => ?_) (fun h12 => ?_)
  ·
   refine OK.seg 1 (by kernel_rfl) (OK.nil ?_)
   refine X.condT (by kernel_rfl) ?_
   refine X.seq (X.region (OK.seg 1 (by kernel_rfl) (OK.nil ?_)))
   refine X.ret ?_
   exact ⟨rfl, giv (r := .bool false) (by kernel_rfl) (bool_f (p := zonesR s) (by intro hh; have q := Ri_fail hh (by omega : z < 11) (by omega : j < _); omega))⟩
  refine OK.seg 1 (by kernel_rfl) (OK.nil ?_)
  refine X.condF (by kernel_rfl) ?_
  refine X.skip (X.region ?_)
  refine OK.val (I ((j + 1 : Nat) : Int)) (by kernel_rfl) (fun _ => add_op (k := .i64) (a := ((j : Nat) : Int)) (b := 1) rfl (by kernel_rfl) (by kernel_rfl) (by rw [wrap64] <;> omega)) ?_
  refine OK.seg 1 (by kernel_rfl) (OK.nil ?_)
  refine ⟨([.agg (cS s), .ptr 0 0, .opq, I ((z : Nat) : Int), undefA, .opq] ++ List.replicate 6 undefA ++ [I ((z : Nat) : Int), .bool true, .opq, .opq, I ((z : Nat) : Int), .ptr 0 1, .ptr 0 (1 + z), .list ((s.ls z).map I) false, I ((((s.ls z).map I).length : Nat) : Int), I ((j + 1 : Nat) : Int)] ++ List.replicate 13 .opq ++ List.replicate 60 undefA : List AV), [.box (cS s) false], [0, 0, 0], [[]], by kernel_rfl, by kernel_rfl, by simp only [bS], by simp only [bS], by kernel_rfl, m9 - 1, by omega, j + 1, by first | rfl | omega, by kernel_rfl, by kernel_rfl, ?_⟩
  exact ⟨by omega, Ri_step h6.2 (by omega) (by omega) (by omega)⟩
 refine OK.nil ?_
 refine X.condF (by kernel_rfl) ?_
 refine X.exit ?_
 show X _ _ _ _ _ _ _ _ _
 refine X.seq (X.seq (X.region (OK.seg 4 (by kernel_rfl) (OK.nil ?_))))
 refine X.block ?_
 have hRI := h1.2
 refine X.rounds3 (K := 500000) [2, 6, 7, 8, 9, 11, 39, 40, 41, 42, 43, 44, 45, 46, 47, 48, 49, 50, 51, 52, 53, 54, 55, 56, 57, 58, 59, 60, 61, 62, 63, 64, 65, 66, 67, 68, 69, 70, 71, 72, 73, 74, 75, 76, 77, 78, 79, 80, 81, 82, 83, 84, 85, 86, 87, 88, 89, 90, 91, 92, 93, 94] (by kernel_rfl) rfl (fun m fr σ => ∃ i : Nat, m = s.objs.length - i ∧ clearA' [2, 6, 7, 8, 9, 11, 39, 40, 41, 42, 43, 44, 45, 46, 47, 48, 49, 50, 51, 52, 53, 54, 55, 56, 57, 58, 59, 60, 61, 62, 63, 64, 65, 66, 67, 68, 69, 70, 71, 72, 73, 74, 75, 76, 77, 78, 79, 80, 81, 82, 83, 84, 85, 86, 87, 88, 89, 90, 91, 92, 93, 94] fr = ([.agg (cS s), .ptr 0 0, .opq, I ((z : Nat) : Int), undefA] ++ List.replicate 5 .opq ++ [undefA, .opq, I ((z : Nat) : Int), .bool false] ++ List.replicate 21 .opq ++ [.ptr 0 0, .list ((s.objs).map E) false, I ((((s.objs).map E).length : Nat) : Int), I ((i : Nat) : Int)] ++ List.replicate 56 .opq : List AV) ∧ σ = [.box (cS s) false] ∧ (i ≤ s.objs.length ∧ ∀ i2 < i, obOk s i2)) ?_ (m := s.objs.length) ⟨0, by first | rfl | omega, by kernel_rfl, by kernel_rfl, by exact ⟨Nat.zero_le _, fun j h => absurd h (Nat.not_lt_zero _)⟩⟩ ?_
 rotate_left
 · omega
 rintro m16 fr σ ⟨i, h14, h15, rfl, h13⟩ k h16
 rw [h15]; clear h15
 have hOI := h13
 obtain ⟨k, rfl⟩ : ∃ k', k = k' + 60 := ⟨k - 60, by omega⟩
 refine X.seq (X.region ?_)
 refine OK.dec (((i : Nat) : Int) < ((((s.objs).map E).length : Nat) : Int)) (by kernel_rfl) (by kernel_rfl) (fun h17 => ?_) (fun h17 => ?_)
 rotate_left
 ·
  refine OK.nil ?_
  refine X.seq (X.condF (by kernel_rfl) ?_)
  refine X.exit ?_
  show X _ _ _ _ _ _ _ _ _
  refine X.seq (X.region (OK.seg 1 (by kernel_rfl) (OK.nil ?_)))
  refine X.ret ?_
  exact ⟨rfl, giv (r := .bool true) (by kernel_rfl) (bool_t (p := zonesR s) (by exact ⟨fun z' hz' => hRI.1 z' (by omega), fun i2 hi2 => hOI.2 i2 (by omega)⟩))⟩
 refine OK.nil ?_
 refine X.seq (X.condT (by kernel_rfl) ?_)
 refine X.skip (X.seq (X.block (X.seq (X.region (OK.seg 1 (by kernel_rfl) ?_)))))
 refine OK.val (.ro (cO ((s.objs).getD i o0)) 0) (by kernel_rfl) (fun _ => idx_map (sz := 18) (g := E) (d := o0) (xs := s.objs) (ex := false) (k := .i64) (n := ((i : Nat) : Int)) rfl Tryz.underlying22 (by kernel_rfl) (by kernel_rfl) (by kernel_rfl) (by kernel_rfl) (by omega) (by omega)) ?_
 refine OK.seg 4 (by kernel_rfl) (OK.nil ?_)
 refine X.seq (X.region (OK.seg 1 (by kernel_rfl) (OK.nil ?_)))
 refine X.seq (X.seq (X.region (OK.seg 1 (by kernel_rfl) (OK.nil ?_))))
 refine X.block ?_
 refine X.rounds3 (K := 250000) [2, 11, 43, 44, 45, 46, 47, 48, 49, 50, 51, 52, 53, 54, 55, 56, 57, 58, 59, 60, 61, 62, 63, 64, 65] (by kernel_rfl) rfl (fun m fr σ => ∃ y : Nat, ∃ c : Nat, m = 11 - y ∧ clearA' [2, 11, 43, 44, 45, 46, 47, 48, 49, 50, 51, 52, 53, 54, 55, 56, 57, 58, 59, 60, 61, 62, 63, 64, 65] fr = ([.agg (cS s), .ptr 0 0, .opq, I ((z : Nat) : Int), undefA, .opq, I ((i : Nat) : Int), .ptr 1 0, I ((c : Nat) : Int), I ((y : Nat) : Int), undefA, .opq, I ((z : Nat) : Int), .bool false] ++ List.replicate 21 .opq ++ [.ptr 0 0, .list ((s.objs).map E) false, I ((((s.objs).map E).length : Nat) : Int), I ((i : Nat) : Int), .bool true, I ((i : Nat) : Int), .ro (cO ((s.objs).getD i o0)) 0, .agg (cO ((s.objs).getD i o0))] ++ List.replicate 52 .opq : List AV) ∧ σ = [.box (cS s) false, .box (cO ((s.objs).getD i o0)) false] ∧ (y ≤ 11 ∧ Ti s i y 0 c)) ?_ (m := 11) ⟨0, 0, by first | rfl | omega, by kernel_rfl, by kernel_rfl, by exact ⟨by omega, Ti_init s i⟩⟩ ?_
 rotate_left
 · omega
 rintro m21 fr σ ⟨y, c, h19, h20, rfl, h18⟩ k h21
 rw [h20]; clear h20
 have hly := hll y; have hwy := hw2 y
 obtain ⟨k, rfl⟩ : ∃ k', k = k' + 60 := ⟨k - 60, by omega⟩
 refine X.seq (X.seq (X.region (OK.seg 1 (by kernel_rfl) ?_)))
 refine OK.dec (((y : Nat) : Int) < 11) (by kernel_rfl) (by kernel_rfl) (fun h22 => ?_) (fun h22 => ?_)
 ·
  refine OK.nil ?_
  refine X.condT (by kernel_rfl) ?_
  refine X.skip (X.seq (X.block (X.seq (X.region (OK.seg 2 (by kernel_rfl) ?_)))))
  refine OK.val (.ptr 0 (1 + y)) (by kernel_rfl) (fun _ => arr_addr (b := 0) (off := 1) (n := y) rfl Tryz.underlying24 (by kernel_rfl) (by kernel_rfl) (by kernel_rfl) (by omega)) ?_
  refine OK.val (.list ((s.ls y).map I) false) (by kernel_rfl) (fun _ => load_at (b := 0) (off := (1 + y)) (cs := (cS s)) (fz := false) rfl (by kernel_rfl) (by kernel_rfl) (by kernel_rfl) (cS_at s y (by omega))) ?_
  refine OK.seg 2 (by kernel_rfl) (OK.nil ?_)
  refine X.block ?_
  refine X.rounds3 (K := 500) [2, 11, 53, 54, 55, 56, 57, 58, 59, 60, 61, 62, 63, 64, 65] (by kernel_rfl) rfl (fun m fr σ => ∃ x : Nat, ∃ d : Nat, m = (s.ls y).length - x ∧ clearA' [2, 11, 53, 54, 55, 56, 57, 58, 59, 60, 61, 62, 63, 64, 65] fr = ([.agg (cS s), .ptr 0 0, .opq, I ((z : Nat) : Int), undefA, .opq, I ((i : Nat) : Int), .ptr 1 0, I ((d : Nat) : Int), I ((y : Nat) : Int), undefA, .opq, I ((z : Nat) : Int), .bool false] ++ List.replicate 21 .opq ++ [.ptr 0 0, .list ((s.objs).map E) false, I ((((s.objs).map E).length : Nat) : Int), I ((i : Nat) : Int), .bool true, I ((i : Nat) : Int), .ro (cO ((s.objs).getD i o0)) 0, .agg (cO ((s.objs).getD i o0)), I ((y : Nat) : Int), .bool true, .opq, .opq, I ((y : Nat) : Int), .ptr 0 1, .ptr 0 (1 + y), .list ((s.ls y).map I) false, I ((((s.ls y).map I).length : Nat) : Int), I ((x : Nat) : Int)] ++ List.replicate 42 .opq : List AV) ∧ σ = [.box (cS s) false, .box (cO ((s.objs).getD i o0)) false] ∧ (x ≤ (s.ls y).length ∧ Ti s i y x d)) ?_ (m := (s.ls y).length) ⟨0, c, by first | rfl | omega, by kernel_rfl, by kernel_rfl, by exact ⟨by omega, h18.2⟩⟩ ?_
  rotate_left
  · omega
  rintro m26 fr σ ⟨x, d, h24, h25, rfl, h23⟩ k h26
  rw [h25]; clear h25
  have hdb := Ti_bound hyp0 h23.2 (by omega)
  obtain ⟨k, rfl⟩ : ∃ k', k = k' + 60 := ⟨k - 60, by omega⟩
  refine X.seq (X.region ?_)
  refine OK.dec (((x : Nat) : Int) < ((((s.ls y).map I).length : Nat) : Int)) (by kernel_rfl) (by kernel_rfl) (fun h27 => ?_) (fun h27 => ?_)
  rotate_left
  ·
   refine OK.nil ?_
   refine X.seq (X.condF (by kernel_rfl) ?_)
   refine X.exit ?_
   show X _ _ _ _ _ _ _ _ _
   refine X.region (OK.seg 1 (by kernel_rfl) ?_)
   refine OK.val (I ((y + 1 : Nat) : Int)) (by kernel_rfl) (fun _ => add_op (k := .i64) (a := ((y : Nat) : Int)) (b := 1) rfl (by kernel_rfl) (by kernel_rfl) (by rw [wrap64] <;> omega)) ?_
   refine OK.seg 1 (by kernel_rfl) (OK.nil ?_)
   refine ⟨([.agg (cS s), .ptr 0 0, .opq, I ((z : Nat) : Int), undefA, .opq, I ((i : Nat) : Int), .ptr 1 0, I ((d : Nat) : Int), I ((y + 1 : Nat) : Int), undefA, .opq, I ((z : Nat) : Int), .bool false] ++ List.replicate 21 .opq ++ [.ptr 0 0, .list ((s.objs).map E) false, I ((((s.objs).map E).length : Nat) : Int), I ((i : Nat) : Int), .bool true, I ((i : Nat) : Int), .ro (cO ((s.objs).getD i o0)) 0, .agg (cO ((s.objs).getD i o0))] ++ List.replicate 52 .opq : List AV), [.box (cS s) false, .box (cO ((s.objs).getD i o0)) false], [0, 1, 0], [[], []], by kernel_rfl, by kernel_rfl, by simp only [bS], by simp only [bS], by kernel_rfl, m21 - 1, by omega, y + 1, d, by first | rfl | omega, by kernel_rfl, by kernel_rfl, ?_⟩
   exact ⟨by omega, Ti_next h23.2 (by omega)⟩
  refine OK.nil ?_
  refine X.seq (X.condT (by kernel_rfl) ?_)
  refine X.skip (X.seq (X.block (X.seq (X.region ?_))))
  refine OK.val (.ro [I (((s.ls y).getD x 0))] 0) (by kernel_rfl) (fun _ => idx_map (sz := 1) (g := I) (d := 0) (xs := s.ls y) (ex := false) (k := .i64) (n := ((x : Nat) : Int)) rfl Tryz.underlying23 (by kernel_rfl) (by kernel_rfl) (by kernel_rfl) (by kernel_rfl) (by omega) (by omega)) ?_
  refine OK.seg 2 (by kernel_rfl) (OK.nil ?_)
  refine X.seq (X.region (OK.seg 2 (by kernel_rfl) ?_))
  refine OK.dec ((((s.ls y).getD x 0)) = ((i : Nat) : Int)) (by kernel_rfl) (by kernel_rfl) (fun h28 => ?_) (fun h28 => ?_)
  rotate_left
  ·
   refine OK.nil ?_
   refine X.condF (by kernel_rfl) ?_
   refine X.skip (X.region ?_)
   refine OK.val (I ((x + 1 : Nat) : Int)) (by kernel_rfl) (fun _ => add_op (k := .i64) (a := ((x : Nat) : Int)) (b := 1) rfl (by kernel_rfl) (by kernel_rfl) (by rw [wrap64] <;> omega)) ?_
   refine OK.seg 1 (by kernel_rfl) (OK.nil ?_)
   refine ⟨([.agg (cS s), .ptr 0 0, .opq, I ((z : Nat) : Int), undefA, .opq, I ((i : Nat) : Int), .ptr 1 0, I ((d : Nat) : Int), I ((y : Nat) : Int), undefA, .opq, I ((z : Nat) : Int), .bool false] ++ List.replicate 21 .opq ++ [.ptr 0 0, .list ((s.objs).map E) false, I ((((s.objs).map E).length : Nat) : Int), I ((i : Nat) : Int), .bool true, I ((i : Nat) : Int), .ro (cO ((s.objs).getD i o0)) 0, .agg (cO ((s.objs).getD i o0)), I ((y : Nat) : Int), .bool true, .opq, .opq, I ((y : Nat) : Int), .ptr 0 1, .ptr 0 (1 + y), .list ((s.ls y).map I) false, I ((((s.ls y).map I).length : Nat) : Int), I ((x + 1 : Nat) : Int)] ++ List.replicate 42 .opq : List AV), [.box (cS s) false, .box (cO ((s.objs).getD i o0)) false], [0, 1, 0, 0, 0], [[], []], by kernel_rfl, by kernel_rfl, by simp only [bS], by simp only [bS], by kernel_rfl, m26 - 1, by omega, x + 1, d, by first | rfl | omega, by kernel_rfl, by kernel_rfl, ?_⟩
   exact ⟨by omega, by first | exact Ti_hit h23.2 (by omega) (by assumption) (by assumption) | exact Ti_miss h23.2 (by omega) (by assumption)⟩
  refine OK.nil ?_
  refine X.condT (by kernel_rfl) ?_
  refine X.seq (X.region (OK.seg 1 (by kernel_rfl) ?_))
  refine OK.val (I ((d + 1 : Nat) : Int)) (by kernel_rfl) (fun _ => add_op (k := .i64) (a := ((d : Nat) : Int)) (b := 1) rfl (by kernel_rfl) (by kernel_rfl) (by rw [wrap64] <;> omega)) ?_
  refine OK.seg 1 (by kernel_rfl) (OK.nil ?_)
  refine X.seq (X.region (OK.seg 3 (by kernel_rfl) ?_))
  refine OK.ndec (((y : Nat) : Int) = (((s.objs).getD i o0) 3)) (by kernel_rfl) (by kernel_rfl) (fun h29 => ?_) (fun h29 => ?_)
  ·
   refine OK.nil ?_
   refine X.condT (by kernel_rfl) ?_
   refine X.seq (X.region (OK.seg 1 (by kernel_rfl) (OK.nil ?_)))
   refine X.ret ?_
   exact ⟨rfl, giv (r := .bool false) (by kernel_rfl) (bool_f (p := zonesR s) (by intro hh; have q := Ti_fail1 hh h23.2 (by omega) (by omega) (by omega) (by assumption); omega))⟩
  refine OK.nil ?_
  refine X.condF (by kernel_rfl) ?_
  refine X.skip (X.region ?_)
  refine OK.val (I ((x + 1 : Nat) : Int)) (by kernel_rfl) (fun _ => add_op (k := .i64) (a := ((x : Nat) : Int)) (b := 1) rfl (by kernel_rfl) (by kernel_rfl) (by rw [wrap64] <;> omega)) ?_
  refine OK.seg 1 (by kernel_rfl) (OK.nil ?_)
  refine ⟨([.agg (cS s), .ptr 0 0, .opq, I ((z : Nat) : Int), undefA, .opq, I ((i : Nat) : Int), .ptr 1 0, I ((d + 1 : Nat) : Int), I ((y : Nat) : Int), undefA, .opq, I ((z : Nat) : Int), .bool false] ++ List.replicate 21 .opq ++ [.ptr 0 0, .list ((s.objs).map E) false, I ((((s.objs).map E).length : Nat) : Int), I ((i : Nat) : Int), .bool true, I ((i : Nat) : Int), .ro (cO ((s.objs).getD i o0)) 0, .agg (cO ((s.objs).getD i o0)), I ((y : Nat) : Int), .bool true, .opq, .opq, I ((y : Nat) : Int), .ptr 0 1, .ptr 0 (1 + y), .list ((s.ls y).map I) false, I ((((s.ls y).map I).length : Nat) : Int), I ((x + 1 : Nat) : Int)] ++ List.replicate 42 .opq : List AV), [.box (cS s) false, .box (cO ((s.objs).getD i o0)) false], [0, 1, 0, 0, 0], [[], []], by kernel_rfl, by kernel_rfl, by simp only [bS], by simp only [bS], by kernel_rfl, m26 - 1, by omega, x + 1, d + 1, by first | rfl | omega, by kernel_rfl, by kernel_rfl, ?_⟩
  exact ⟨by omega, by first | exact Ti_hit h23.2 (by omega) (by assumption) (by assumption) | exact Ti_miss h23.2 (by omega) (by assumption)⟩
 refine OK.nil ?_
 refine X.condF (by kernel_rfl) ?_
 refine X.exit ?_
 show X _ _ _ _ _ _ _ _ _
 refine X.seq (X.seq (X.region (OK.seg 1 (by kernel_rfl) ?_)))
 refine OK.ndec (((c : Nat) : Int) = 1) (by kernel_rfl) (by kernel_rfl) (fun h30 => ?_) (fun h30 => ?_)
 ·
  refine OK.nil ?_
  refine X.condT (by kernel_rfl) ?_
  refine X.seq (X.region (OK.seg 1 (by kernel_rfl) (OK.nil ?_)))
  refine X.ret ?_
  exact ⟨rfl, giv (r := .bool false) (by kernel_rfl) (bool_f (p := zonesR s) (by intro hh; have q := Ti_fail2 hh h18.2 (by omega) (by omega); simp only [oc] at q; omega))⟩
 refine OK.nil ?_
 refine X.condF (by kernel_rfl) ?_
 refine X.skip (X.seq (X.region (OK.seg 2 (by kernel_rfl) ?_)))
 refine OK.dec ((((s.objs).getD i o0) 3) < 8) (by kernel_rfl) (by kernel_rfl) (fun h31 => ?_) (fun h31 => ?_)
 rotate_left
 ·
  refine OK.seg 16 (by kernel_rfl) ?_
  refine OK.dec ((((s.objs).getD i o0) 3) = 8) (by kernel_rfl) (by kernel_rfl) (fun h36 => ?_) (fun h36 => ?_)
  rotate_left
  ·
   refine OK.seg 6 (by kernel_rfl) (OK.nil ?_)
   refine X.condF (by kernel_rfl) ?_
   refine X.skip (X.region ?_)
   refine OK.val (I ((i + 1 : Nat) : Int)) (by kernel_rfl) (fun _ => add_op (k := .i64) (a := ((i : Nat) : Int)) (b := 1) rfl (by kernel_rfl) (by kernel_rfl) (by rw [wrap64] <;> omega)) ?_
   refine OK.seg 1 (by kernel_rfl) (OK.nil ?_)
   refine ⟨([.agg (cS s), .ptr 0 0, .opq, I ((z : Nat) : Int), undefA] ++ List.replicate 5 .opq ++ [undefA, .opq, I ((z : Nat) : Int), .bool false] ++ List.replicate 21 .opq ++ [.ptr 0 0, .list ((s.objs).map E) false, I ((((s.objs).map E).length : Nat) : Int), I ((i + 1 : Nat) : Int)] ++ List.replicate 56 .opq : List AV), [.box (cS s) false, .box (cO ((s.objs).getD i o0)) false], [0, 0], [[], []], by kernel_rfl, by kernel_rfl, by simp only [bS], by simp only [bS], by kernel_rfl, m16 - 1, by omega, i + 1, by first | rfl | omega, by kernel_rfl, by kernel_rfl, ?_⟩
   refine ⟨by omega, fun i2 hi2 => ?_⟩
   rcases Nat.lt_or_ge i2 i with hq | hq
   · exact hOI.2 i2 hq
   · obtain rfl : i2 = i := by omega
     exact Ti_end h18.2 (by omega) (by omega) (by simp only [oc]; omega)
  refine OK.seg 3 (by kernel_rfl) ?_
  refine OK.dec ((((s.objs).getD i o0) 13) = 2) (by kernel_rfl) (by kernel_rfl) (fun h37 => ?_) (fun h37 => ?_)
  ·
   refine OK.seg 2 (by kernel_rfl) (OK.nil ?_)
   refine X.condT (by kernel_rfl) ?_
   refine X.seq (X.region (OK.seg 1 (by kernel_rfl) (OK.nil ?_)))
   refine X.ret ?_
   exact ⟨rfl, giv (r := .bool false) (by kernel_rfl) (bool_f (p := zonesR s) (by intro hh; have q := Ti_fail2 hh h18.2 (by omega) (by omega); simp only [oc] at q; omega))⟩
  refine OK.seg 2 (by kernel_rfl) (OK.nil ?_)
  refine X.condF (by kernel_rfl) ?_
  refine X.skip (X.region ?_)
  refine OK.val (I ((i + 1 : Nat) : Int)) (by kernel_rfl) (fun _ => add_op (k := .i64) (a := ((i : Nat) : Int)) (b := 1) rfl (by kernel_rfl) (by kernel_rfl) (by rw [wrap64] <;> omega)) ?_
  refine OK.seg 1 (by kernel_rfl) (OK.nil ?_)
  refine ⟨([.agg (cS s), .ptr 0 0, .opq, I ((z : Nat) : Int), undefA] ++ List.replicate 5 .opq ++ [undefA, .opq, I ((z : Nat) : Int), .bool false] ++ List.replicate 21 .opq ++ [.ptr 0 0, .list ((s.objs).map E) false, I ((((s.objs).map E).length : Nat) : Int), I ((i + 1 : Nat) : Int)] ++ List.replicate 56 .opq : List AV), [.box (cS s) false, .box (cO ((s.objs).getD i o0)) false], [0, 0], [[], []], by kernel_rfl, by kernel_rfl, by simp only [bS], by simp only [bS], by kernel_rfl, m16 - 1, by omega, i + 1, by first | rfl | omega, by kernel_rfl, by kernel_rfl, ?_⟩
  refine ⟨by omega, fun i2 hi2 => ?_⟩
  rcases Nat.lt_or_ge i2 i with hq | hq
  · exact hOI.2 i2 hq
  · obtain rfl : i2 = i := by omega
    exact Ti_end h18.2 (by omega) (by omega) (by simp only [oc]; omega)
 refine OK.seg 5 (by kernel_rfl) ?_
 refine OK.val (I (Int.tmod (((s.objs).getD i o0) 3) 2)) (by kernel_rfl) (fun _ => rem_op (a := (((s.objs).getD i o0) 3)) (b := 2) rfl (by kernel_rfl) (by kernel_rfl) (by kernel_rfl)) ?_
 refine OK.ndec ((((s.objs).getD i o0) 1) = (Int.tmod (((s.objs).getD i o0) 3) 2)) (by kernel_rfl) (by kernel_rfl) (fun h32 => ?_) (fun h32 => ?_)
 ·
  refine OK.seg 16 (by kernel_rfl) (OK.nil ?_)
  refine X.condT (by kernel_rfl) ?_
  refine X.seq (X.region (OK.seg 1 (by kernel_rfl) (OK.nil ?_)))
  refine X.ret ?_
  exact ⟨rfl, giv (r := .bool false) (by kernel_rfl) (bool_f (p := zonesR s) (by intro hh; have q := Ti_fail2 hh h18.2 (by omega) (by omega); simp only [oc] at q; omega))⟩
 refine OK.seg 3 (by kernel_rfl) ?_
 refine OK.ndec ((((s.objs).getD i o0) 13) = 0) (by kernel_rfl) (by kernel_rfl) (fun h33 => ?_) (fun h33 => ?_)
 ·
  refine OK.seg 12 (by kernel_rfl) (OK.nil ?_)
  refine X.condT (by kernel_rfl) ?_
  refine X.seq (X.region (OK.seg 1 (by kernel_rfl) (OK.nil ?_)))
  refine X.ret ?_
  exact ⟨rfl, giv (r := .bool false) (by kernel_rfl) (bool_f (p := zonesR s) (by intro hh; have q := Ti_fail2 hh h18.2 (by omega) (by omega); simp only [oc] at q; omega))⟩
 refine OK.seg 5 (by kernel_rfl) ?_
 refine OK.dec ((((s.objs).getD i o0) 3) = 8) (by kernel_rfl) (by kernel_rfl) (fun h34 => ?_) (fun h34 => ?_)
 rotate_left
 ·
  refine OK.seg 6 (by kernel_rfl) (OK.nil ?_)
  refine X.condF (by kernel_rfl) ?_
  refine X.skip (X.region ?_)
  refine OK.val (I ((i + 1 : Nat) : Int)) (by kernel_rfl) (fun _ => add_op (k := .i64) (a := ((i : Nat) : Int)) (b := 1) rfl (by kernel_rfl) (by kernel_rfl) (by rw [wrap64] <;> omega)) ?_
  refine OK.seg 1 (by kernel_rfl) (OK.nil ?_)
  refine ⟨([.agg (cS s), .ptr 0 0, .opq, I ((z : Nat) : Int), undefA] ++ List.replicate 5 .opq ++ [undefA, .opq, I ((z : Nat) : Int), .bool false] ++ List.replicate 21 .opq ++ [.ptr 0 0, .list ((s.objs).map E) false, I ((((s.objs).map E).length : Nat) : Int), I ((i + 1 : Nat) : Int)] ++ List.replicate 56 .opq : List AV), [.box (cS s) false, .box (cO ((s.objs).getD i o0)) false], [0, 0], [[], []], by kernel_rfl, by kernel_rfl, by simp only [bS], by simp only [bS], by kernel_rfl, m16 - 1, by omega, i + 1, by first | rfl | omega, by kernel_rfl, by kernel_rfl, ?_⟩
  refine ⟨by omega, fun i2 hi2 => ?_⟩
  rcases Nat.lt_or_ge i2 i with hq | hq
  · exact hOI.2 i2 hq
  · obtain rfl : i2 = i := by omega
    exact Ti_end h18.2 (by omega) (by omega) (by simp only [oc]; omega)
 refine OK.seg 3 (by kernel_rfl) ?_
 refine OK.dec ((((s.objs).getD i o0) 13) = 2) (by kernel_rfl) (by kernel_rfl) (fun h35 => ?_) (fun h35 => ?_)
 ·
  refine OK.seg 2 (by kernel_rfl) (OK.nil ?_)
  refine X.condT (by kernel_rfl) ?_
  refine X.seq (X.region (OK.seg 1 (by kernel_rfl) (OK.nil ?_)))
  refine X.ret ?_
  exact ⟨rfl, giv (r := .bool false) (by kernel_rfl) (bool_f (p := zonesR s) (by intro hh; have q := Ti_fail2 hh h18.2 (by omega) (by omega); simp only [oc] at q; omega))⟩
 refine OK.seg 2 (by kernel_rfl) (OK.nil ?_)
 refine X.condF (by kernel_rfl) ?_
 refine X.skip (X.region ?_)
 refine OK.val (I ((i + 1 : Nat) : Int)) (by kernel_rfl) (fun _ => add_op (k := .i64) (a := ((i : Nat) : Int)) (b := 1) rfl (by kernel_rfl) (by kernel_rfl) (by rw [wrap64] <;> omega)) ?_
 refine OK.seg 1 (by kernel_rfl) (OK.nil ?_)
 refine ⟨([.agg (cS s), .ptr 0 0, .opq, I ((z : Nat) : Int), undefA] ++ List.replicate 5 .opq ++ [undefA, .opq, I ((z : Nat) : Int), .bool false] ++ List.replicate 21 .opq ++ [.ptr 0 0, .list ((s.objs).map E) false, I ((((s.objs).map E).length : Nat) : Int), I ((i + 1 : Nat) : Int)] ++ List.replicate 56 .opq : List AV), [.box (cS s) false, .box (cO ((s.objs).getD i o0)) false], [0, 0], [[], []], by kernel_rfl, by kernel_rfl, by simp only [bS], by simp only [bS], by kernel_rfl, m16 - 1, by omega, i + 1, by first | rfl | omega, by kernel_rfl, by kernel_rfl, ?_⟩
 refine ⟨by omega, fun i2 hi2 => ?_⟩
 rcases Nat.lt_or_ge i2 i with hq | hq
 · exact hOI.2 i2 hq
 · obtain rfl : i2 = i := by omega
   exact Ti_end h18.2 (by omega) (by omega) (by simp only [oc]; omega)
end Go.Abs.Z
namespace Go.Abs.Z
open Go Go.Abs Go.Proofs
def fmAll (s : St) : Prop := ∀ j < s.objs.length, fmd (s.objs.getD j o0)
noncomputable instance (s : St) : Decidable (fmAll s) := Classical.propDecidable _
noncomputable def numS (s : St) : Int := if s.objs.length > 400 then 5 else if ¬ okR s then 1 else if ¬ zonesI s then 12 else if ¬ fmAll s then 2 else 0
noncomputable def errS (s : St) : AV := if numS s = 0 then .nilIface else .iface 86 (I (numS s))
abbrev rightS (s : St) : Prop := numS s = 0
theorem num5 {s : St} (h : s.objs.length > 400) : numS s = 5 := by unfold numS; rw [if_pos h]
theorem num1 {s : St} (h : ¬ s.objs.length > 400) (h1 : ¬ okR s) : numS s = 1 := by unfold numS; rw [if_neg h, if_pos h1]
theorem num12 {s : St} (h : ¬ s.objs.length > 400) (h1 : okR s) (h2 : ¬ zonesI s) : numS s = 12 := by unfold numS; rw [if_neg h, if_neg (not_not_intro h1), if_pos h2]
theorem num2 {s : St} (h : ¬ s.objs.length > 400) (h1 : okR s) (h2 : zonesI s) (h3 : ¬ fmAll s) : numS s = 2 := by unfold numS; rw [if_neg h, if_neg (not_not_intro h1), if_neg (not_not_intro h2), if_pos h3]
theorem num0 {s : St} (h : ¬ s.objs.length > 400) (h1 : okR s) (h2 : zonesI s) (h3 : fmAll s) : numS s = 0 := by unfold numS; rw [if_neg h, if_neg (not_not_intro h1), if_neg (not_not_intro h2), if_neg (not_not_intro h3)]
theorem err_num {s : St} {n : Int} (h : numS s = n) (hn : n ≠ 0) : AV.iface 86 (I n) = errS s := by unfold errS; rw [h, if_neg hn]
theorem err_nil {s : St} (h : numS s = 0) : AV.nilIface = errS s := by unfold errS; rw [if_pos h]
theorem errS_cases (s : St) : (rightS s ∧ errS s = .nilIface) ∨ (¬ rightS s ∧ ∃ v, errS s = .iface 86 (I v)) := by
  unfold rightS errS
  by_cases h : numS s = 0
  · left; exact ⟨h, if_pos h⟩
  · right; exact ⟨h, _, if_neg h⟩
theorem right_of {s : St} (h : rightS s) : s.objs.length ≤ 400 ∧ okR s ∧ zonesI s ∧ fmAll s := by
  unfold rightS numS at h
  split at h
  · omega
  · split at h
    · omega
    · split at h
      · omega
      · split at h
        · omega
        · rename_i h1 h2 h3 h4
          exact ⟨by omega, Decidable.not_not.1 h2, Decidable.not_not.1 h3, Decidable.not_not.1 h4⟩
theorem lit67_w : ∀ k (o : Ob) σ, 250 ≤ k → readW (callW Tryz.prog (exec Tryz.prog cfg k)) 81 [.agg (cO o)] σ = some (.bool (decide (¬ fmd o)), σ) := by
 intro k o σ hk
 obtain ⟨k, rfl⟩ : ∃ k', k = k' + 60 := ⟨k - 60, by omega⟩
 refine reader_of Tryz.func81 rfl (by simp only [AV.frees, AV.free, fr_I, fr_E, fr_cO, fr_cL, fr_cS, Bool.and_self]) ?_
 refine X.seq (X.region (OK.seg 2 (by kernel_rfl) (OK.nil ?_)))
 refine X.seq (X.region (OK.seg 1 (by kernel_rfl) ?_))
 refine OK.rdP [.agg (cO o)] [.agg (cO o)] (fmd o) rfl (by kernel_rfl) rfl (by kernel_rfl) (by kernel_rfl) (by kernel_rfl) (by kernel_rfl) (by kernel_rfl) (formed_w _ _ _ (by omega)) (fun h1 => ?_) (fun h1 => ?_)
 rotate_left
 ·
  refine OK.seg 2 (by kernel_rfl) (OK.nil ?_)
  refine X.ret ?_
  exact ⟨rfl, giv (r := .bool true) (by kernel_rfl) (bool_t (p := ¬ fmd o) (by assumption))⟩
 refine OK.seg 2 (by kernel_rfl) (OK.nil ?_)
 refine X.ret ?_
 exact ⟨rfl, giv (r := .bool false) (by kernel_rfl) (bool_f (p := ¬ fmd o) (by exact not_not_intro (by assumption)))⟩
set_option maxHeartbeats 1000000 in
theorem Check_w : ∀ k (s : St) σ, wf s → 400000 ≤ k → readW (callW Tryz.prog (exec Tryz.prog cfg k)) 41 [.agg (cS s)] σ = some (errS s, σ) := by
 intro k s σ hyp0 hk
 obtain ⟨k, rfl⟩ : ∃ k', k = k' + 60 := ⟨k - 60, by omega⟩
 have hw1 := hyp0.1
 have hw2 := hyp0.2
 have hlm : ((s.objs).map E).length = s.objs.length := List.length_map _
 have hll : ∀ z, ((s.ls z).map I).length = (s.ls z).length := fun z => List.length_map _
 refine reader_of Tryz.func41 rfl (by simp only [AV.frees, AV.free, fr_I, fr_E, fr_cO, fr_cL, fr_cS, Bool.and_self]) ?_
 refine X.seq (X.region (OK.seg 2 (by kernel_rfl) (OK.nil ?_)))
 refine X.seq (X.block (X.seq (X.region (OK.seg 3 (by kernel_rfl) ?_))))
 refine OK.dec (((((s.objs).map E).length : Nat) : Int) > 400) (by kernel_rfl) (by kernel_rfl) (fun h1 => ?_) (fun h1 => ?_)
 ·
  refine OK.seg 1 (by kernel_rfl) (OK.nil ?_)
  refine X.condT (by kernel_rfl) ?_
  refine X.seq (X.region (OK.seg 2 (by kernel_rfl) (OK.nil ?_)))
  refine X.ret ?_
  exact ⟨rfl, giv (r := .iface 86 (I 5)) (by kernel_rfl) (by exact err_num (num5 (by omega)) (by decide))⟩
 refine OK.seg 1 (by kernel_rfl) (OK.nil ?_)
 refine X.condF (by kernel_rfl) ?_
 refine X.seq (X.region (OK.seg 1 (by kernel_rfl) ?_))
 refine OK.rdP [.agg (cS s)] [.agg (cS s)] (okR s) rfl (by kernel_rfl) rfl (by kernel_rfl) (by kernel_rfl) (by kernel_rfl) (by kernel_rfl) (by kernel_rfl) (ranges_w _ _ _ hyp0 (by omega)) (fun h2 => ?_) (fun h2 => ?_)
 rotate_left
 ·
  refine OK.seg 2 (by kernel_rfl) (OK.nil ?_)
  refine X.condT (by kernel_rfl) ?_
  refine X.seq (X.region (OK.seg 2 (by kernel_rfl) (OK.nil ?_)))
  refine X.ret ?_
  exact ⟨rfl, giv (r := .iface 86 (I 1)) (by kernel_rfl) (by exact err_num (num1 (by omega) (by assumption)) (by decide))⟩
 refine OK.seg 2 (by kernel_rfl) (OK.nil ?_)
 refine X.condF (by kernel_rfl) ?_
 refine X.seq (X.region (OK.seg 1 (by kernel_rfl) ?_))
 refine OK.rdP [.agg (cS s)] [.agg (cS s)] (zonesI s) rfl (by kernel_rfl) rfl (by kernel_rfl) (by kernel_rfl) (by kernel_rfl) (by kernel_rfl) (by kernel_rfl) (zones_w _ _ _ hyp0 (by omega)) (fun h3 => ?_) (fun h3 => ?_)
 rotate_left
 ·
  refine OK.seg 2 (by kernel_rfl) (OK.nil ?_)
  refine X.condT (by kernel_rfl) ?_
  refine X.seq (X.region (OK.seg 2 (by kernel_rfl) (OK.nil ?_)))
  refine X.ret ?_
  exact ⟨rfl, giv (r := .iface 86 (I 12)) (by kernel_rfl) (by exact err_num (num12 (by omega) (by assumption) (by assumption)) (by decide))⟩
 refine OK.seg 2 (by kernel_rfl) (OK.nil ?_)
 refine X.condF (by kernel_rfl) ?_
 refine X.seq (X.region (OK.seg 2 (by kernel_rfl) ?_))
 refine OK.inl (fnn := Tryz.f80) (first := []) (cap := []) (args := [.list ((s.objs).map E) false, .func (.func 81) [] []]) rfl (by kernel_rfl) rfl (by kernel_rfl) (by kernel_rfl) (by kernel_rfl) (by kernel_rfl) (by kernel_rfl) Tryz.func80 rfl ?_
 refine X.seq (X.region (OK.seg 1 (by kernel_rfl) (OK.nil ?_)))
 refine X.seq (X.region (OK.seg 2 (by kernel_rfl) ?_))
 refine OK.inl (fnn := Tryz.f140) (first := []) (cap := []) (args := [.list ((s.objs).map E) false, .func (.func 81) [] []]) rfl (by kernel_rfl) rfl (by kernel_rfl) (by kernel_rfl) (by kernel_rfl) (by kernel_rfl) (by kernel_rfl) Tryz.func140 rfl ?_
 refine X.seq (X.region (OK.seg 1 (by kernel_rfl) (OK.nil ?_)))
 refine X.seq (X.seq (X.region (OK.seg 3 (by kernel_rfl) (OK.nil ?_))))
 refine X.block ?_
 refine X.rounds3 (K := 500) [4, 5, 9, 10, 11, 12, 13, 14, 15, 16, 17, 18] (by kernel_rfl) rfl (fun m fr σ => ∃ i : Nat, m = s.objs.length - i ∧ clearA' [4, 5, 9, 10, 11, 12, 13, 14, 15, 16, 17, 18] fr = ([.list ((s.objs).map E) false, .func (.func 81) [] [], undefA, undefA, .opq, .opq, .list ((s.objs).map E) false, I ((((s.objs).map E).length : Nat) : Int), I ((i : Nat) : Int)] ++ List.replicate 10 .opq : List AV) ∧ σ = [.box (cS s) false] ∧ (i ≤ s.objs.length ∧ ∀ i2 < i, fmd (s.objs.getD i2 o0))) ?_ (m := s.objs.length) ⟨0, by first | rfl | omega, by kernel_rfl, by kernel_rfl, by exact ⟨Nat.zero_le _, fun j h => absurd h (Nat.not_lt_zero _)⟩⟩ ?_
 rotate_left
 · omega
 rintro m7 fr σ ⟨i, h5, h6, rfl, h4⟩ k h7
 rw [h6]; clear h6
 obtain ⟨k, rfl⟩ : ∃ k', k = k' + 60 := ⟨k - 60, by omega⟩
 refine X.seq (X.region ?_)
 refine OK.dec (((i : Nat) : Int) < ((((s.objs).map E).length : Nat) : Int)) (by kernel_rfl) (by kernel_rfl) (fun h8 => ?_) (fun h8 => ?_)
 rotate_left
 ·
  refine OK.nil ?_
  refine X.seq (X.condF (by kernel_rfl) ?_)
  refine X.exit ?_
  show X _ _ _ _ _ _ _ _ _
  refine X.seq (X.region (OK.seg 1 (by kernel_rfl) (OK.nil ?_)))
  refine X.ret ?_
  refine ⟨rfl, [I (-1)], by kernel_rfl, ?_⟩
  refine OK.seg 2 (by kernel_rfl) (OK.nil ?_)
  refine X.ret ?_
  refine ⟨rfl, [.bool false], by kernel_rfl, ?_⟩
  refine OK.seg 1 (by kernel_rfl) (OK.nil ?_)
  refine X.condF (by kernel_rfl) ?_
  refine X.skip (X.seq (X.region (OK.seg 1 (by kernel_rfl) (OK.nil ?_))))
  refine X.ret ?_
  exact ⟨rfl, giv (r := .nilIface) (by kernel_rfl) (by first | (exfalso; omega) | exact err_nil (num0 (by omega) (by assumption) (by assumption) (fun i2 hi2 => h4.2 i2 (by omega))))⟩
 refine OK.nil ?_
 refine X.seq (X.condT (by kernel_rfl) ?_)
 refine X.skip (X.seq (X.block (X.seq (X.region (OK.seg 2 (by kernel_rfl) (OK.nil ?_))))))
 refine X.seq (X.region (OK.seg 3 (by kernel_rfl) ?_))
 refine OK.val (.ro (cO ((s.objs).getD i o0)) 0) (by kernel_rfl) (fun _ => idx_map (sz := 18) (g := E) (d := o0) (xs := s.objs) (ex := false) (k := .i64) (n := ((i : Nat) : Int)) rfl Tryz.underlying22 (by kernel_rfl) (by kernel_rfl) (by kernel_rfl) (by kernel_rfl) (by omega) (by omega)) ?_
 refine OK.seg 1 (by kernel_rfl) ?_
 refine OK.rdQ (g := 81) [.agg (cO ((s.objs).getD i o0))] [.agg (cO ((s.objs).getD i o0))] (¬ fmd ((s.objs).getD i o0)) rfl (by kernel_rfl) rfl (by kernel_rfl) (by kernel_rfl) (by kernel_rfl) (by kernel_rfl) (by kernel_rfl) (by kernel_rfl) (lit67_w _ _ _ (by omega)) (fun h9 => ?_) (fun h9 => ?_)
 rotate_left
 ·
  refine OK.nil ?_
  refine X.condF (by kernel_rfl) ?_
  refine X.skip (X.region ?_)
  refine OK.val (I ((i + 1 : Nat) : Int)) (by kernel_rfl) (fun _ => add_op (k := .i64) (a := ((i : Nat) : Int)) (b := 1) rfl (by kernel_rfl) (by kernel_rfl) (by rw [wrap64] <;> omega)) ?_
  refine OK.seg 1 (by kernel_rfl) (OK.nil ?_)
  refine ⟨([.list ((s.objs).map E) false, .func (.func 81) [] [], undefA, undefA, .opq, .opq, .list ((s.objs).map E) false, I ((((s.objs).map E).length : Nat) : Int), I ((i + 1 : Nat) : Int)] ++ List.replicate 10 .opq : List AV), [.box (cS s) false], [], [[]], by kernel_rfl, by kernel_rfl, by simp only [bS], by simp only [bS], by kernel_rfl, m7 - 1, by omega, i + 1, by first | rfl | omega, by kernel_rfl, by kernel_rfl, ?_⟩
  refine ⟨by omega, fun i2 hi2 => ?_⟩
  rcases Nat.lt_or_ge i2 i with hq | hq
  · exact h4.2 i2 hq
  · obtain rfl : i2 = i := by omega
    exact Decidable.not_not.1 (by assumption)
 refine OK.nil ?_
 refine X.condT (by kernel_rfl) ?_
 refine X.seq (X.region (OK.seg 2 (by kernel_rfl) (OK.nil ?_)))
 refine X.ret ?_
 refine ⟨rfl, [I ((i : Nat) : Int)], by kernel_rfl, ?_⟩
 refine OK.dec (((i : Nat) : Int) ≥ 0) (by kernel_rfl) (by kernel_rfl) (fun h10 => ?_) (fun h10 => ?_)
 rotate_left
 ·
  refine OK.seg 1 (by kernel_rfl) (OK.nil ?_)
  refine X.ret ?_
  refine ⟨rfl, [.bool false], by kernel_rfl, ?_⟩
  refine OK.seg 1 (by kernel_rfl) (OK.nil ?_)
  refine X.condF (by kernel_rfl) ?_
  refine X.skip (X.seq (X.region (OK.seg 1 (by kernel_rfl) (OK.nil ?_))))
  refine X.ret ?_
  exact ⟨rfl, giv (r := .nilIface) (by kernel_rfl) (by first | (exfalso; omega) | exact err_nil (num0 (by omega) (by assumption) (by assumption) (fun i2 hi2 => h4.2 i2 (by omega))))⟩
 refine OK.seg 1 (by kernel_rfl) (OK.nil ?_)
 refine X.ret ?_
 refine ⟨rfl, [.bool true], by kernel_rfl, ?_⟩
 refine OK.seg 1 (by kernel_rfl) (OK.nil ?_)
 refine X.condT (by kernel_rfl) ?_
 refine X.seq (X.region (OK.seg 2 (by kernel_rfl) (OK.nil ?_)))
 refine X.ret ?_
 exact ⟨rfl, giv (r := .iface 86 (I 2)) (by kernel_rfl) (by first | (exfalso; omega) | exact err_num (num2 (by omega) (by assumption) (by assumption) (fun hh => absurd (hh i (by omega)) (by assumption))) (by decide))⟩
theorem rzones_w' : ∀ k (s : St) σ, wf s → 1200000 ≤ k → readW (callW Tryz.prog (exec Tryz.prog cfg k)) 49 [.agg (cS s)] σ = some (.bool (decide (zonesI s)), σ) := by
 intro k s σ h hk
 rw [rzones_w k s σ h hk, decide_eq_decide.2 (zones_iff s)]
set_option maxHeartbeats 1000000 in
theorem rCheck_w : ∀ k (s : St) σ, wf s → 1300000 ≤ k → readW (callW Tryz.prog (exec Tryz.prog cfg k)) 17 [.agg (cS s)] σ = some (I (numS s), σ) := by
 intro k s σ hyp0 hk
 obtain ⟨k, rfl⟩ : ∃ k', k = k' + 60 := ⟨k - 60, by omega⟩
 have hw1 := hyp0.1
 have hw2 := hyp0.2
 have hlm : ((s.objs).map E).length = s.objs.length := List.length_map _
 have hll : ∀ z, ((s.ls z).map I).length = (s.ls z).length := fun z => List.length_map _
 refine reader_of Tryz.func17 rfl (by simp only [AV.frees, AV.free, fr_I, fr_E, fr_cO, fr_cL, fr_cS, Bool.and_self]) ?_
 refine X.seq (X.region (OK.seg 2 (by kernel_rfl) (OK.nil ?_)))
 refine X.seq (X.seq (X.region (OK.seg 3 (by kernel_rfl) ?_)))
 refine OK.dec (((((s.objs).map E).length : Nat) : Int) > 400) (by kernel_rfl) (by kernel_rfl) (fun h1 => ?_) (fun h1 => ?_)
 ·
  refine OK.nil ?_
  refine X.condT (by kernel_rfl) ?_
  refine X.seq (X.region (OK.seg 1 (by kernel_rfl) (OK.nil ?_)))
  refine X.ret ?_
  exact ⟨rfl, giv (r := I 5) (by kernel_rfl) (congrArg (AV.int .i64) (by exact (num5 (by omega)).symm))⟩
 refine OK.nil ?_
 refine X.condF (by kernel_rfl) ?_
 refine X.skip (X.seq (X.seq (X.region (OK.seg 1 (by kernel_rfl) ?_))))
 refine OK.rdP [.agg (cS s)] [.agg (cS s)] (okR s) rfl (by kernel_rfl) rfl (by kernel_rfl) (by kernel_rfl) (by kernel_rfl) (by kernel_rfl) (by kernel_rfl) (rranges_w _ _ _ hyp0 (by omega)) (fun h2 => ?_) (fun h2 => ?_)
 rotate_left
 ·
  refine OK.seg 1 (by kernel_rfl) (OK.nil ?_)
  refine X.condT (by kernel_rfl) ?_
  refine X.seq (X.region (OK.seg 1 (by kernel_rfl) (OK.nil ?_)))
  refine X.ret ?_
  exact ⟨rfl, giv (r := I 1) (by kernel_rfl) (congrArg (AV.int .i64) (by exact (num1 (by omega) (by assumption)).symm))⟩
 refine OK.seg 1 (by kernel_rfl) (OK.nil ?_)
 refine X.condF (by kernel_rfl) ?_
 refine X.skip (X.seq (X.seq (X.region (OK.seg 1 (by kernel_rfl) ?_))))
 refine OK.rdP [.agg (cS s)] [.agg (cS s)] (zonesI s) rfl (by kernel_rfl) rfl (by kernel_rfl) (by kernel_rfl) (by kernel_rfl) (by kernel_rfl) (by kernel_rfl) (rzones_w' _ _ _ hyp0 (by omega)) (fun h3 => ?_) (fun h3 => ?_)
 rotate_left
 ·
  refine OK.seg 1 (by kernel_rfl) (OK.nil ?_)
  refine X.condT (by kernel_rfl) ?_
  refine X.seq (X.region (OK.seg 1 (by kernel_rfl) (OK.nil ?_)))
  refine X.ret ?_
  exact ⟨rfl, giv (r := I 12) (by kernel_rfl) (congrArg (AV.int .i64) (by exact (num12 (by omega) (by assumption) (by assumption)).symm))⟩
 refine OK.seg 1 (by kernel_rfl) (OK.nil ?_)
 refine X.condF (by kernel_rfl) ?_
 refine X.skip (X.seq (X.seq (X.region (OK.seg 4 (by kernel_rfl) (OK.nil ?_)))))
 refine X.block ?_
 refine X.rounds3 (K := 500) [2, 4, 19, 20, 21, 22, 23, 24, 25] (by kernel_rfl) rfl (fun m fr σ => ∃ i : Nat, m = s.objs.length - i ∧ clearA' [2, 4, 19, 20, 21, 22, 23, 24, 25] fr = ([.agg (cS s), .ptr 0 0, .opq, undefA, .opq, .ptr 0 0, .list ((s.objs).map E) false, I ((((s.objs).map E).length : Nat) : Int), .bool false, .agg (cS s), .bool true, .bool false, .agg (cS s), .bool true, .bool false, .ptr 0 0, .list ((s.objs).map E) false, I ((((s.objs).map E).length : Nat) : Int), I ((i : Nat) : Int)] ++ List.replicate 7 .opq : List AV) ∧ σ = [.box (cS s) false] ∧ (i ≤ s.objs.length ∧ ∀ i2 < i, fmd (s.objs.getD i2 o0))) ?_ (m := s.objs.length) ⟨0, by first | rfl | omega, by kernel_rfl, by kernel_rfl, by exact ⟨Nat.zero_le _, fun j h => absurd h (Nat.not_lt_zero _)⟩⟩ ?_
 rotate_left
 · omega
 rintro m7 fr σ ⟨i, h5, h6, rfl, h4⟩ k h7
 rw [h6]; clear h6
 obtain ⟨k, rfl⟩ : ∃ k', k = k' + 60 := ⟨k - 60, by omega⟩
 refine X.seq (X.region ?_)
 refine OK.dec (((i : Nat) : Int) < ((((s.objs).map E).length : Nat) : Int)) (by kernel_rfl) (by kernel_rfl) (fun h8 => ?_) (fun h8 => ?_)
 rotate_left
 ·
  refine OK.nil ?_
  refine X.seq (X.condF (by kernel_rfl) ?_)
  refine X.exit ?_
  show X _ _ _ _ _ _ _ _ _
  refine X.seq (X.region (OK.seg 1 (by kernel_rfl) (OK.nil ?_)))
  refine X.ret ?_
  exact ⟨rfl, giv (r := I 0) (by kernel_rfl) (congrArg (AV.int .i64) (by exact (num0 (by omega) (by assumption) (by assumption) (fun i2 hi2 => h4.2 i2 (by omega))).symm))⟩
 refine OK.nil ?_
 refine X.seq (X.condT (by kernel_rfl) ?_)
 refine X.skip (X.seq (X.block (X.seq (X.region ?_))))
 refine OK.val (.ro (cO ((s.objs).getD i o0)) 0) (by kernel_rfl) (fun _ => idx_map (sz := 18) (g := E) (d := o0) (xs := s.objs) (ex := false) (k := .i64) (n := ((i : Nat) : Int)) rfl Tryz.underlying22 (by kernel_rfl) (by kernel_rfl) (by kernel_rfl) (by kernel_rfl) (by omega) (by omega)) ?_
 refine OK.seg 3 (by kernel_rfl) (OK.nil ?_)
 refine X.seq (X.region (OK.seg 1 (by kernel_rfl) ?_))
 refine OK.rdP [.agg (cO ((s.objs).getD i o0))] [.agg (cO ((s.objs).getD i o0))] (fmd ((s.objs).getD i o0)) rfl (by kernel_rfl) rfl (by kernel_rfl) (by kernel_rfl) (by kernel_rfl) (by kernel_rfl) (by kernel_rfl) (rformed_w _ _ _ (by omega)) (fun h9 => ?_) (fun h9 => ?_)
 rotate_left
 ·
  refine OK.seg 1 (by kernel_rfl) (OK.nil ?_)
  refine X.condT (by kernel_rfl) ?_
  refine X.seq (X.region (OK.seg 1 (by kernel_rfl) (OK.nil ?_)))
  refine X.ret ?_
  exact ⟨rfl, giv (r := I 2) (by kernel_rfl) (congrArg (AV.int .i64) (by exact (num2 (by omega) (by assumption) (by assumption) (fun hh => absurd (hh i (by omega)) (by assumption))).symm))⟩
 refine OK.seg 1 (by kernel_rfl) (OK.nil ?_)
 refine X.condF (by kernel_rfl) ?_
 refine X.skip (X.region ?_)
 refine OK.val (I ((i + 1 : Nat) : Int)) (by kernel_rfl) (fun _ => add_op (k := .i64) (a := ((i : Nat) : Int)) (b := 1) rfl (by kernel_rfl) (by kernel_rfl) (by rw [wrap64] <;> omega)) ?_
 refine OK.seg 1 (by kernel_rfl) (OK.nil ?_)
 refine ⟨([.agg (cS s), .ptr 0 0, .opq, undefA, .opq, .ptr 0 0, .list ((s.objs).map E) false, I ((((s.objs).map E).length : Nat) : Int), .bool false, .agg (cS s), .bool true, .bool false, .agg (cS s), .bool true, .bool false, .ptr 0 0, .list ((s.objs).map E) false, I ((((s.objs).map E).length : Nat) : Int), I ((i + 1 : Nat) : Int)] ++ List.replicate 7 .opq : List AV), [.box (cS s) false, .box (cO ((s.objs).getD i o0)) false], [0, 0, 0], [[], []], by kernel_rfl, by kernel_rfl, by simp only [bS], by simp only [bS], by kernel_rfl, m7 - 1, by omega, i + 1, by first | rfl | omega, by kernel_rfl, by kernel_rfl, ?_⟩
 refine ⟨by omega, fun i2 hi2 => ?_⟩
 rcases Nat.lt_or_ge i2 i with hq | hq
 · exact h4.2 i2 hq
 · obtain rfl : i2 = i := by omega
   assumption
end Go.Abs.Z
