/-
  The law StackTells answers true for all arguments that are typed. No condition.
-/
import Derived.Test.YtnpheencpcfbbaaGreatDoorW5
import Derived.Test.YtnpheencpcfbbaaGreatDoorL3
set_option linter.unusedSimpArgs false
set_option linter.unusedVariables false
namespace Go.Abs.Z
open Go Go.Abs Go.Proofs
theorem ty_int {n : Nat} {cs : List AV} (h : TyC Tryz.prog n 3 cs) : ∃ m, cs = [I m] :=
  tyc_int Tryz.underlying3 h
theorem ty_ints {cs : List AV} {n : Nat} (hl : cs.length = n) (h : ∀ i < n, ∃ m, (cs.drop i).take 1 = [I m]) : ∃ f : Nat → Int, cs = (List.range n).map fun i => I (f i) := by
  obtain ⟨ms, rfl⟩ := all_map (g := I) (slots hl (Q := fun a => ∃ m, a = I m) fun i hi => by obtain ⟨m, hm⟩ := h i hi; exact ⟨_, hm, m, rfl⟩)
  refine ⟨fun i => ms.getD i 0, ?_⟩
  conv => lhs; rw [range_getD 0 ms]
  rw [List.map_map, ← hl, List.length_map]; rfl
theorem ty_obj {n : Nat} {cs : List AV} (h : TyC Tryz.prog n 50 cs) : ∃ o : Ob, cs = cO o := by
    obtain ⟨_, h1, h2⟩ := tyc_array Tryz.underlying50 h
    have e : Tryz.prog.cellsOf 50 = 18 := by kernel_rfl
    have e3 : Tryz.prog.cellsOf 3 = 1 := by kernel_rfl
    rw [e] at h1
    obtain ⟨f, hf⟩ := ty_ints h1 fun i hi => ty_int (by have := h2 i hi; rwa [e3, Nat.mul_one] at this)
    exact ⟨f, hf⟩
theorem ty_list {n : Nat} {cs : List AV} (h : TyC Tryz.prog n 23 cs) : ∃ (xs : List Int) (b : Bool), cs = [.list (xs.map I) b] := by
    obtain ⟨_, es, b, rfl, h2⟩ := tyc_slice_f Tryz.underlying23 (by kernel_rfl) h
    obtain ⟨xs, rfl⟩ := all_map (g := I) (cs := es) fun a ha => by
      obtain ⟨m, hm⟩ := ty_int (h2 a ha)
      exact ⟨m, by simpa using hm⟩
    exact ⟨xs, b, rfl⟩
theorem ty_objs {n : Nat} {cs : List AV} (h : TyC Tryz.prog n 22 cs) : ∃ (xs : List Ob) (b : Bool), cs = [.list (xs.map E) b] := by
    obtain ⟨_, es, b, rfl, h2⟩ := tyc_slice_t Tryz.underlying22 (by kernel_rfl) h
    obtain ⟨xs, rfl⟩ := all_map (g := E) (cs := es) fun a ha => by
      obtain ⟨ds, rfl, hd⟩ := h2 a ha
      obtain ⟨o, rfl⟩ := ty_obj hd
      exact ⟨o, rfl⟩
    exact ⟨xs, b, rfl⟩
theorem ty_lists {n : Nat} {cs : List AV} (h : TyC Tryz.prog n 24 cs) : ∃ (l : Nat → List Int) (x : Nat → Bool), (∀ z, 11 ≤ z → l z = []) ∧ cs = (List.range 11).map fun i => .list ((l i).map I) (x i) := by
    obtain ⟨_, h1, h2⟩ := tyc_array Tryz.underlying24 h
    have e : Tryz.prog.cellsOf 24 = 11 := by kernel_rfl
    have e3 : Tryz.prog.cellsOf 23 = 1 := by kernel_rfl
    rw [e] at h1
    obtain ⟨ms, rfl⟩ := all_map (g := fun p : List Int × Bool => AV.list (p.1.map I) p.2) (slots h1 (Q := fun a => ∃ p : List Int × Bool, a = .list (p.1.map I) p.2) fun i hi => by
      obtain ⟨xs, b, hm⟩ := ty_list (by have := h2 i hi; rwa [e3, Nat.mul_one] at this)
      exact ⟨_, hm, (xs, b), rfl⟩)
    rw [List.length_map] at h1
    refine ⟨fun i => (ms.getD i ([], false)).1, fun i => (ms.getD i ([], false)).2, fun z hz => ?_, ?_⟩
    · simp [List.getD, List.getElem?_eq_none (by omega : ms.length ≤ z)]
    · conv => lhs; rw [range_getD ([], false) ms]
      rw [List.map_map, h1]; rfl
theorem ty_flat {n t w e k : Nat} {cs : List AV} (hu : Tryz.prog.underlying t = some (.array w e)) (he : Tryz.prog.cellsOf e = k) (hi : ∀ {n : Nat} {ds : List AV}, TyC Tryz.prog n e ds → ∃ f : Nat → Int, ds = (List.range k).map fun i => I (f i)) (ht : Tryz.prog.cellsOf t = w * k) (h : TyC Tryz.prog n t cs) : ∃ f : Nat → Int, cs = (List.range (w * k)).map fun i => I (f i) := by
    obtain ⟨_, h1, h2⟩ := tyc_array hu h
    rw [ht] at h1
    rw [he] at h2
    refine ty_ints h1 fun i hi' => ?_
    have hk : 0 < k := by
      rcases Nat.eq_zero_or_pos k with h0 | h0
      · subst h0; simp at hi'
      · exact h0
    obtain ⟨f, hf⟩ := hi (h2 (i / k) (by rw [Nat.div_lt_iff_lt_mul hk]; exact hi'))
    refine ⟨f (i % k), ?_⟩
    have hmod := Nat.mod_lt i hk
    have hdm := Nat.div_add_mod i k
    rw [Nat.mul_comm] at hdm
    have e1 : cs.drop i = ((cs.drop (i / k * k)).drop (i % k)) := by rw [List.drop_drop, hdm]
    have e2 : ((cs.drop (i / k * k)).drop (i % k)).take 1 = (((cs.drop (i / k * k)).take k).drop (i % k)).take 1 := by
      rw [List.drop_take, List.take_take, show min 1 (k - i % k) = 1 by omega]
    rw [e1, e2, hf]
    rw [← List.map_drop, ← List.map_take, List.drop_eq_getElem_cons (by simpa using hmod)]
    simp
theorem ty_state {a : AV} (h : TyV Tryz.prog 29 a) : ∃ (s : St) (x : Nat → Bool), (∀ z, 11 ≤ z → s.ls z = []) ∧ a = .agg (cSf s x) := by
    obtain ⟨n, cs, rfl, h9⟩ := tyv_agg (by kernel_rfl) h
    obtain ⟨mm, h1, h2⟩ := tyc_struct Tryz.underlying29 h9
    have e29 : Tryz.prog.cellsOf 29 = 37 := by kernel_rfl
    have e22 : Tryz.prog.cellsOf 22 = 1 := by kernel_rfl
    have e24 : Tryz.prog.cellsOf 24 = 11 := by kernel_rfl
    have e26 : Tryz.prog.cellsOf 26 = 18 := by kernel_rfl
    have e27 : Tryz.prog.cellsOf 27 = 7 := by kernel_rfl
    have e25 : Tryz.prog.cellsOf 25 = 9 := by kernel_rfl
    have e3 : Tryz.prog.cellsOf 3 = 1 := by kernel_rfl
    rw [e29] at h1
    have p0 : TyC Tryz.prog mm 22 ((cs.drop 0).take (Tryz.prog.cellsOf 22)) := h2 0 _ rfl
    have p1 : TyC Tryz.prog mm 24 ((cs.drop 1).take (Tryz.prog.cellsOf 24)) := h2 1 _ rfl
    have p2 : TyC Tryz.prog mm 26 ((cs.drop 12).take (Tryz.prog.cellsOf 26)) := h2 2 _ rfl
    have p3 : TyC Tryz.prog mm 27 ((cs.drop 30).take (Tryz.prog.cellsOf 27)) := h2 3 _ rfl
    rw [e22] at p0
    rw [e24] at p1
    rw [e26] at p2
    rw [e27] at p3
    obtain ⟨objs, b, q0⟩ := ty_objs p0
    obtain ⟨l, x, hl, q1⟩ := ty_lists p1
    have one : ∀ {n : Nat} {ds : List AV}, TyC Tryz.prog n 3 ds → ∃ f : Nat → Int, ds = (List.range 1).map fun i => I (f i) := fun h => by
      obtain ⟨m, rfl⟩ := ty_int h; exact ⟨fun _ => m, rfl⟩
    have nine : ∀ {n : Nat} {ds : List AV}, TyC Tryz.prog n 25 ds → ∃ f : Nat → Int, ds = (List.range 9).map fun i => I (f i) := fun h => ty_flat (w := 9) Tryz.underlying25 e3 one e25 h
    obtain ⟨pl, q2⟩ := ty_flat (w := 2) Tryz.underlying26 e25 nine e26 p2
    obtain ⟨gm, q3⟩ := ty_flat (w := 7) Tryz.underlying27 e3 one e27 p3
    refine ⟨⟨objs, l, pl, gm⟩, fun i => if i = 0 then b else x (i - 1), hl, ?_⟩
    have es : cs = cs.take 1 ++ ((cs.drop 1).take 11 ++ ((cs.drop (1 + 11)).take 18 ++ (cs.drop (1 + 11 + 18)).take 7)) := cut4 h1
    have q0' : cs.take 1 = _ := q0
    have q1' : (cs.drop 1).take 11 = _ := q1
    have q2' : (cs.drop (1 + 11)).take 18 = _ := q2
    have q3' : (cs.drop (1 + 11 + 18)).take 7 = _ := q3
    rw [es, q0', q1', q2', q3']
    rfl
theorem agg3 : aggB Tryz.prog 3 = false := by kernel_rfl
theorem tyv_scalar {P : Program} {t : TypeId} {k : IntKind} {a : AV} (h3 : aggB P t = false) (hu : P.underlying t = some (.int k)) (h : TyV P t a) : ∃ m, a = .int k m := by
  obtain ⟨n, h⟩ := h
  rw [h3] at h
  obtain ⟨m, h2⟩ := tyc_int hu h
  exact ⟨m, by simpa using h2⟩
theorem tyv_int {a : AV} (h : TyV Tryz.prog 3 a) : ∃ m, a = I m := tyv_scalar agg3 Tryz.underlying3 h
def tys : List TypeId := [3, 4, 22, 23, 24, 25, 26, 27, 29, 50]
theorem tys_plain : plainB Tryz.prog tys = true := by kernel_rfl
theorem three {α : Type} : ∀ {l : List α}, l.length = 3 → ∃ x y z, l = [x, y, z]
  | [x, y, z], _ => ⟨x, y, z, rfl⟩
theorem tells_law : LawOk Tryz.prog cfg 6 [29, 3, 3] := by
  intro args hl hty
  obtain ⟨v1, v2, v3, rfl⟩ := three hl
  obtain ⟨s, x, hz, rfl⟩ := ty_state (hty 0 29 v1 rfl rfl)
  obtain ⟨id, rfl⟩ := tyv_int (hty 1 3 v2 rfl rfl)
  obtain ⟨p, rfl⟩ := tyv_int (hty 2 3 v3 rfl rfl)
  exact ⟨_, tells_ok s x hz id p⟩
end Go.Abs.Z
