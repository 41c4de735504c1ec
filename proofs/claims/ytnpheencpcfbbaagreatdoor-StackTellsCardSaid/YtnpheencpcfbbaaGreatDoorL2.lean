/-
  The interpreter over pure values is sound: what it computes, every call of the model does. No condition but those that each theorem names.
-/
import Derived.Test.YtnpheencpcfbbaaGreatDoorL1
import Derived.LoopN
import Derived.Scope
import Derived.Laws.Sem
import GoSem.ClaimChange
import Derived.DataReads
set_option linter.unusedSimpArgs false
set_option linter.unusedVariables false
namespace Go.Abs
open Go.RowKit (Below)
variable {P : Program} {R : Ren} {σ : Sto} {w : World} {lo base : Nat}
def Post (R : Ren) (σ : Sto) (w : World) (lo base : Nat) (r : AV) (σ' : Sto) : Ending → World → Prop :=
  fun e w' => ∃ v R', e = .returned v ∧ Step R σ w lo base R' σ' w' ∧ VRel R' r v
def GlobOk (cfg : Cfg) (R : Ren) : Prop := ∀ g cs, cfg.glob g = some cs → CellsAt R cs g 0 ∧ AV.frees cs = true
theorem GlobOk.mono {cfg : Cfg} {R' : Ren} (h : GlobOk cfg R) (l : R.Le R') : GlobOk cfg R' := fun g cs e => ⟨(h g cs e).1.mono l, (h g cs e).2⟩
def CallOk (P : Program) (cfg : Cfg) (call : Caller) : Prop := ∀ f args lo σ r σ', call f args lo σ = some (r, σ') → ∀ R w base vs, Inv R σ w lo base → base ≤ w.heap.size → lo ≤ σ.length → GlobOk cfg R → VRels R args vs →
  Calls P f vs.toArray w (Post R σ w lo base r σ')
structure CfgOk (P : Program) (cfg : Cfg) : Prop where
  ext : ∀ f e, cfg.ext f = some e → ∀ args r, e args = some r → AV.frees args = true → r.free = true → ∀ R σ w lo base vs, Inv R σ w lo base → base ≤ w.heap.size → VRels R args vs → Calls P f vs.toArray w (Post R σ w lo base r σ)
  clone : ∀ f T, cfg.clone f = some T → ∀ args r σ σ', cloneA P σ T args = some (r, σ') → ∀ R w lo base vs, Inv R σ w lo base → base ≤ w.heap.size → lo ≤ σ.length → VRels R args vs → Calls P f vs.toArray w (Post R σ w lo base r σ')
  named : ∀ (f : Nat) fn, P.funcs[f]? = some fn → fn.body = none → cfg.ext f = none ∧ cfg.clone f = none
  plain : ∀ (f : Nat) fn, P.funcs[f]? = some fn → fn.name ≠ "runtime.NumGoroutine"
  bodies : ∀ (f : Nat), (cfg.ext f).isSome = true ∨ (cfg.clone f).isSome = true → ∃ fn, P.funcs[f]? = some fn ∧ fn.name ≠ "runtime.NumGoroutine" ∧ fn.body.isSome = true
theorem below_mono {w w' : World} {b b' : Nat} (h : Below b w w') (hb : b' ≤ b) : Below b' w w' := h.mono hb
theorem Step.dropped {R' : Ren} {σ' : Sto} {w' : World} (I : Inv R σ w lo base) (hb : base ≤ w.heap.size) (h : Step R σ w σ.length w.heap.size R' σ' w') :
    Step R σ w lo base { box := R.box, rows := R.rows, im := R'.im } σ w' := by
  have hheap : ∀ B, B < w.heap.size → w'.heap[B]? = w.heap[B]? := h.below.block
  refine ⟨⟨fun _ _ e => e, fun _ r e => ⟨r, e, Nat.le_refl _, fun _ => rfl⟩, h.le.im⟩, I.quiet rfl rfl h.le.im h.inv.im h.imNew hheap, h.below.mono hb, fun B o v e n => Nat.le_trans hb (h.imNew B o v e n), fun _ _ => rfl, Nat.le_refl _, fun _ _ => rfl, fun _ _ _ => rfl, fun B hB _ => hheap B hB, fun _ _ _ h => .inl h, fun B o v e n => .inr (h.imNew B o v e n)⟩
def Ren.bare (R : Ren) : Ren := ⟨fun _ => none, fun _ => none, R.im⟩
theorem Inv.bare (I : Inv R σ w lo base) (lo' base' : Nat) : Inv R.bare [] w lo' base' := by
  have hA : ∀ {b B}, ¬ At R.bare b B := fun h => by rcases h with h | ⟨_, h, _⟩ <;> simp [Ren.bare] at h
  refine ⟨I.im, fun _ _ => ⟨rfl, rfl⟩, fun _ _ _ _ => rfl, fun _ _ _ _ _ _ => rfl, ?_, ?_, fun _ _ _ h _ => absurd h hA, fun _ _ _ h => absurd h hA, ?_, ?_⟩
  · intro b cs fz h; simp at h
  · intro b es g sz fz h; simp at h
  · intro b cs _ h; simp at h
  · intro b es g sz _ h; simp at h
theorem GlobOk.bare {cfg : Cfg} (h : GlobOk cfg R) : GlobOk cfg R.bare := fun g cs e => ⟨CellsAt.of_free (R := R) (R' := R.bare) (fun _ _ _ h => h) (h g cs e).1 (h g cs e).2, (h g cs e).2⟩
theorem Step.read {R' : Ren} {σ' : Sto} {w' : World} (I : Inv R σ w lo base) (hb : base ≤ w.heap.size) (h : Step R.bare [] w 0 w.heap.size R' σ' w') :
    Step R σ w lo base { box := R.box, rows := R.rows, im := R'.im } σ w' := by
  have hheap : ∀ B, B < w.heap.size → w'.heap[B]? = w.heap[B]? := h.below.block
  refine ⟨⟨fun _ _ e => e, fun _ r e => ⟨r, e, Nat.le_refl _, fun _ => rfl⟩, h.le.im⟩, I.quiet rfl rfl h.le.im h.inv.im h.imNew hheap, h.below.mono hb, fun B o v e n => Nat.le_trans hb (h.imNew B o v e n), fun _ _ => rfl, Nat.le_refl _, fun _ _ => rfl, fun _ _ _ => rfl, fun B hB _ => hheap B hB, fun _ _ _ h => .inl h, fun B o v e n => .inr (h.imNew B o v e n)⟩
theorem Step.widen {R' : Ren} {σ' : Sto} {w' : World} (I : Inv R σ w lo base) (hb : base ≤ w.heap.size) (hlo : lo ≤ σ.length) (h : Step R σ w σ.length w.heap.size R' σ' w') :
    Step R σ w lo base R' σ' w' := by
  have hAtOld : ∀ {b B}, At R' b B → b < σ.length → At R b B := fun {b B} hA hlt => by
    rcases hA with hA | ⟨r', hA, rfl⟩
    · rw [h.boxOld b hlt] at hA; exact .inl hA
    · rw [h.rowsOld b hlt hlt] at hA; exact .inr ⟨r', hA, rfl⟩
  have himOld : ∀ {b B}, At R b B → (∀ o, R.im B o = none) → ∀ o, R'.im B o = none := fun {b B} hA hn o => by
    cases e : R'.im B o with
    | none => rfl
    | some v => have := h.imNew B o v e (hn o); have := I.at_heap hA; omega
  refine ⟨h.le, ⟨h.inv.im, h.inv.dom, h.inv.kindB, h.inv.kindR, h.inv.box, h.inv.rows, h.inv.apart, ?_, ?_, ?_⟩, h.below.mono hb, fun B o v e n => Nat.le_trans hb (h.imNew B o v e n),
    fun b hlt => h.keep b (by omega), h.len, h.boxOld, fun b h1 h2 => h.rowsOld b h2 h2, fun B hB _ => h.below.block B hB, fun b B _ hA => by
      by_cases hlt : b < σ.length
      · exact .inl (hAtOld hA hlt)
      · exact h.fresh b B (by omega) hA, fun B o v e n => .inr (h.imNew B o v e n)⟩
  · intro b B h1 hA
    by_cases hlt : b < σ.length
    · exact I.base b B h1 (hAtOld hA hlt)
    · exact Nat.le_trans hb (h.inv.base b B (by omega) hA)
  · intro b cs h1 hσ B hB o
    by_cases hlt : b < σ.length
    · rw [h.keep b hlt] at hσ
      have hA : At R b B := hAtOld (.inl hB) hlt
      have hB' : R.box b = some B := by rw [← h.boxOld b hlt]; exact hB
      exact himOld hA (I.openB b cs h1 hσ B hB') o
    · exact h.inv.openB b cs (by omega) hσ B hB o
  · intro b es g sz h1 hσ r hr o
    by_cases hlt : b < σ.length
    · rw [h.keep b hlt] at hσ
      have hr' : R.rows b = some r := by rw [← h.rowsOld b hlt hlt]; exact hr
      exact himOld (.inr ⟨r, hr', rfl⟩) (I.openR b es g sz h1 hσ r hr') o
    · exact h.inv.openR b es g sz (by omega) hσ r hr o
theorem Inv.shut (I : Inv R σ w lo base) : Inv R σ w σ.length w.heap.size :=
  ⟨I.im, I.dom, I.kindB, I.kindR, I.box, I.rows, I.apart, fun b B h hA => absurd (I.at_lt hA) (by omega), fun b cs h hσ => absurd (List.getElem?_eq_some_iff.1 hσ).1 (by omega), fun b es g sz h hσ => absurd (List.getElem?_eq_some_iff.1 hσ).1 (by omega)⟩
theorem shut_ok : ∀ {l : List (Nat × Nat × Nat)} {σ σ' : Sto} {R : Ren} {w : World} {args : List AV} {vs : List Value}, shutA lo σ args l = some σ' → Inv R σ w lo base → VRels R args vs →
    ∃ R' , Step R σ w lo base R' σ' w
  | [], σ, σ', R, w, args, vs, h, I, _ => by simp [shutA] at h; subst h; exact ⟨R, .refl I⟩
  | (i, off, n) :: rest, σ, σ', R, w, args, vs, h, I, hv => by
    simp only [shutA] at h
    split at h
    · rename_i b o hi
      split at h
      · rename_i cs hσ
        split at h
        · rename_i hlb
          cases e1 : snapsW (snap lo 6) σ ((cs.drop (o + off)).take n) with
          | none => simp [e1] at h
          | some q =>
            obtain ⟨cs', σ1⟩ := q
            simp only [e1] at h
            split at h
            · rename_i ds hσ1
              split at h
              · rename_i hc
                obtain ⟨u, hu, hr⟩ := hv.get hi
                cases hr with
                | ptr _ hB =>
                  rename_i B
                  obtain ⟨c, T, hw, hrel, _⟩ := I.box b cs false hσ B hB
                  obtain ⟨R1, hst, hr1⟩ := snapsW_ok (snap_ok 6).1 e1 I ((hrel.drop (o + off)).take n)
                  obtain ⟨c1, T1, hw1, hrel1, _⟩ := hst.inv.box b ds false hσ1 B (hst.le.box _ _ hB)
                  rw [hw] at hw1; cases hw1
                  have hlen : c.toList.length = ds.length := hrel1.length.symm
                  have hl1 : ((c.toList.drop (o + off)).take n).length = n := by rw [← hr1.length]; exact hc.1
                  have hsp := splice_rel (off := o + off) hrel1 hr1
                  have hsame : c.toList.take (o + off) ++ (c.toList.drop (o + off)).take n ++ c.toList.drop (o + off + ((c.toList.drop (o + off)).take n).length) = c.toList := by
                    generalize o + off = k at hl1 ⊢
                    rw [hl1, List.append_assoc, ← List.drop_drop]
                    rw [show ((c.toList.drop k).take n) ++ (c.toList.drop k).drop n = c.toList.drop k from List.take_append_drop _ _]
                    exact List.take_append_drop _ _
                  rw [hsame] at hsp
                  have hst2 := Step.setBox (c' := c) hst.inv hlb hσ1 (hst.le.box _ _ hB) hw hsp
                  have hself : w.setRow B c = w := setRow_self w B c T (0, 0) hw
                  rw [hself] at hst2
                  obtain ⟨R3, hst3⟩ := shut_ok h hst2.inv (hv.mono hst.le)
                  exact ⟨R3, (hst.trans hst2).trans hst3⟩
              · cases h
            · cases h
        · cases h
      · cases h
    · exact shut_ok h I hv
    · cases h
theorem frees_flat : ∀ {es : List AV}, AV.frees es = true → AV.frees (es.flatMap AV.cells) = true
  | [], _ => rfl
  | e :: es, h => by
    simp only [AV.frees, Bool.and_eq_true] at h
    have h1 : AV.frees e.cells = true := by
      cases e <;> simp_all [AV.cells, AV.frees, AV.free]
    rw [List.flatMap_cons]
    have : ∀ (as bs : List AV), AV.frees (as ++ bs) = (AV.frees as && AV.frees bs) := fun as bs => by
      induction as with
      | nil => simp [AV.frees]
      | cons a as ih => simp [AV.frees, ih, Bool.and_assoc]
    rw [this, h1, frees_flat h.2]; rfl
def look : List Nat → Nat → Option Nat
  | [], _ => none
  | x :: xs, y => if x = y then some 0 else (look xs y).map (· + 1)
theorem look_some : ∀ {bs : List Nat} {y i : Nat}, look bs y = some i → bs[i]? = some y
  | [], _, _, h => by simp [look] at h
  | x :: xs, y, i, h => by
    simp only [look] at h
    split at h
    · rename_i e; cases h; simp [e]
    · cases hl : look xs y with
      | none => simp [hl] at h
      | some j => simp [hl] at h; subst h; simpa using look_some hl
theorem look_get : ∀ {bs : List Nat} {y i : Nat}, bs.Nodup → bs[i]? = some y → look bs y = some i
  | [], _, _, _, h => by simp at h
  | x :: xs, y, i, hn, h => by
    simp only [look]
    cases i with
    | zero => simp at h; rw [if_pos h]
    | succ i =>
      simp only [List.getElem?_cons_succ] at h
      have hm : y ∈ xs := List.mem_of_getElem? h
      rw [if_neg (fun e => (List.nodup_cons.1 hn).1 (by rw [e]; exact hm)), look_get (List.nodup_cons.1 hn).2 h]; rfl
theorem look_none {bs : List Nat} {y : Nat} (h : look bs y = none) : ¬ y ∈ bs := by
  induction bs with
  | nil => simp
  | cons x xs ih =>
    simp only [look] at h
    split at h
    · cases h
    · rename_i e
      simp only [Option.map_eq_none_iff] at h
      simp only [List.mem_cons, not_or]
      exact ⟨fun e' => e e'.symm, ih h⟩
def RowFree (σ : Sto) (y : Nat) : Prop := ∃ es g sz, σ[y]? = some (.rows es g sz false) ∧ AV.frees es = true
theorem rowOk_free {y : Nat} (h : rowOk σ y = true) : RowFree σ y := by
  unfold rowOk at h
  split at h
  · rename_i es g sz hσ; exact ⟨es, g, sz, hσ, h⟩
  · cases h
theorem inCell_rel {R0 : Ren} {y i : Nat} {c d : AV} {v : Value} (h : inCell y i c = some d) (him : R0.im = R.im) (hr : R0.rows i = R.rows y) (hv : VRel R c v) : VRel R0 d v := by
  unfold inCell at h
  split at h
  · rename_i b g off len
    split at h
    · rename_i e; subst e; cases h
      cases hv with
      | sl _ _ p hR hl hp => rw [← hr] at hR; exact .sl _ _ p hR hl hp
      | slOld _ _ p cap hR hg => rw [← hr] at hR; exact .slOld _ _ p cap hR hg
    · cases h
  · split at h
    · rename_i hf; cases h; exact hv.of_free (fun B o v e => by rw [him]; exact e) hf
    · cases h
theorem lentIn_rel {R0 : Ren} {y1 y2 : Nat} {cs cs0 : List AV} {vs : List Value} (h : lentIn cs y1 y2 = some cs0) (him : R0.im = R.im) (h1 : R0.rows 1 = R.rows y1) (h2 : R0.rows 2 = R.rows y2) (hv : VRels R cs vs) : VRels R0 cs0 vs := by
  unfold lentIn at h
  split at h
  · rename_i c1 c2 post hd
    split at h
    · rename_i hf
      split at h
      · rename_i d1 d2 e1 e2
        cases h
        have hdr := hv.drop 38
        have htk := hv.take 38
        rw [hd] at hdr
        rw [← List.take_append_drop 38 vs]
        have him' : ∀ B o v, R.im B o = some v → R0.im B o = some v := fun B o v e => by rw [him]; exact e
        refine (htk.of_free him' hf.1).append ?_
        generalize vs.drop 38 = us at hdr
        cases hdr with
        | cons q1 t =>
          cases t with
          | cons q2 t => exact .cons (inCell_rel e1 him h1 q1) (.cons (inCell_rel e2 him h2 q2) (t.of_free him' hf.2))
      · cases h
    · cases h
  · cases h
theorem backRows_spec {σ1 : Sto} {bs : List Nat} {n : Nat} : ∀ {cs cs0 : List AV} {ns ns' : List Nat}, backRows σ1 bs n cs ns = some (cs0, ns') → (∃ t, ns' = ns ++ t) ∧ (ns.Nodup → ns'.Nodup) ∧ ((∀ y ∈ ns, bs.length < y ∧ RowFree σ1 y) → ∀ y ∈ ns', bs.length < y ∧ RowFree σ1 y) ∧
    ∀ {R2 R' : Ren} {vs : List Value}, (∀ B o v, R2.im B o = some v → R'.im B o = some v) → (∀ i y, bs[i]? = some y → R'.rows y = R2.rows (i + 1)) → (∀ k c, ns'[k]? = some c → R'.rows (n + k) = R2.rows c) → VRels R2 cs vs → VRels R' cs0 vs
  | [], cs0, ns, ns', h => by
    simp only [backRows, Option.some.injEq, Prod.mk.injEq] at h
    obtain ⟨rfl, rfl⟩ := h
    exact ⟨⟨[], by simp⟩, id, id, fun _ _ _ hv => by cases hv; exact .nil⟩
  | c :: cs, cs0, ns, ns', h => by
    simp only [backRows] at h
    split at h
    · rename_i b g off len
      split at h
      · cases h
      · rename_i hb0
        split at h
        · rename_i y hy
          split at h
          · rename_i cs' ns'' hr
            simp only [Option.some.injEq, Prod.mk.injEq] at h
            obtain ⟨rfl, rfl⟩ := h
            obtain ⟨h0, h1, h2, h3⟩ := backRows_spec hr
            refine ⟨h0, h1, h2, fun him hrow hnew hv => ?_⟩
            have e := hrow (b - 1) y hy
            rw [show b - 1 + 1 = b by omega] at e
            cases hv with
            | cons hv1 hv2 =>
              refine .cons ?_ (h3 him hrow hnew hv2)
              cases hv1 with
              | sl _ _ p hR hl hp => rw [← e] at hR; exact .sl _ _ p hR hl hp
              | slOld _ _ p cap hR hg => rw [← e] at hR; exact .slOld _ _ p cap hR hg
          · cases h
        · rename_i hy
          split at h
          · rename_i es _ _ hσ
            split at h
            · rename_i hc
              split at h
              · rename_i cs' ns'' hr
                simp only [Option.some.injEq, Prod.mk.injEq] at h
                obtain ⟨rfl, rfl⟩ := h
                obtain ⟨⟨t, ht⟩, h1, h2, h3⟩ := backRows_spec hr
                refine ⟨⟨b :: t, by simp [ht]⟩, fun hn => h1 ?_, fun ha => h2 ?_, fun him hrow hnew hv => ?_⟩
                · rw [List.nodup_append]
                  exact ⟨hn, by simp, fun x hx y hy => by simp only [List.mem_singleton] at hy; subst hy; intro e; subst e; exact hc.1 hx⟩
                · intro y hy'
                  rcases List.mem_append.1 hy' with hy' | hy'
                  · exact ha y hy'
                  · simp only [List.mem_singleton] at hy'; subst hy'
                    have := List.getElem?_eq_none_iff.1 hy
                    exact ⟨by omega, es, _, _, hσ, hc.2⟩
                · have hb : (ns ++ [b] ++ t)[ns.length]? = some b := by simp
                  have e := hnew ns.length b (by rw [ht]; exact hb)
                  cases hv with
                  | cons hv1 hv2 =>
                    refine .cons ?_ (h3 him hrow hnew hv2)
                    cases hv1 with
                    | sl _ _ p hR hl hp => rw [← e] at hR; exact .sl _ _ p hR hl hp
                    | slOld _ _ p cap hR hg => rw [← e] at hR; exact .slOld _ _ p cap hR hg
              · cases h
            · cases h
          · cases h
    · split at h
      · rename_i hf
        split at h
        · rename_i cs' ns'' hr
          simp only [Option.some.injEq, Prod.mk.injEq] at h
          obtain ⟨rfl, rfl⟩ := h
          obtain ⟨h0, h1, h2, h3⟩ := backRows_spec hr
          refine ⟨h0, h1, h2, fun him hrow hnew hv => ?_⟩
          cases hv with
          | cons hv1 hv2 => exact .cons (hv1.of_free him hf) (h3 him hrow hnew hv2)
        · cases h
      · cases h
theorem putRows_spec {σ1 : Sto} : ∀ {bs : List Nat} {i : Nat} {σ σ' : Sto}, putRows σ1 bs i σ = some σ' → bs.Nodup → (∀ y ∈ bs, y < σ.length) → σ'.length = σ.length ∧ (∀ y, ¬ y ∈ bs → σ'[y]? = σ[y]?) ∧ ∀ j y, bs[j]? = some y → σ'[y]? = σ1[i + j]? ∧ RowFree σ1 (i + j)
  | [], i, σ, σ', h, _, _ => by
    simp only [putRows, Option.some.injEq] at h
    subst h
    exact ⟨rfl, fun _ _ => rfl, fun j y h => by simp at h⟩
  | b :: bs, i, σ, σ', h, hn, hl => by
    simp only [putRows] at h
    split at h
    · rename_i es g sz hσ
      split at h
      · rename_i hf
        obtain ⟨h1, h2, h3⟩ := putRows_spec h (List.nodup_cons.1 hn).2 (fun y hy => by rw [List.length_set]; exact hl y (by simp [hy]))
        have hbn := (List.nodup_cons.1 hn).1
        refine ⟨by rw [h1, List.length_set], fun y hy => ?_, fun j y hj => ?_⟩
        · simp only [List.mem_cons, not_or] at hy
          rw [h2 y hy.2, List.getElem?_set_ne (fun e => hy.1 e.symm)]
        · cases j with
          | zero =>
            simp at hj; subst hj
            rw [h2 b hbn, List.getElem?_set_self (hl b (by simp)), Nat.add_zero, hσ]
            exact ⟨rfl, es, g, sz, hσ, hf⟩
          | succ j =>
            have := h3 j y (by simpa using hj)
            rw [show i + (j + 1) = i + 1 + j by omega]; exact this
      · cases h
    · cases h
def lentRen (R : Ren) (b : Nat) (bs : List Nat) : Ren :=
  ⟨fun j => if j = 0 then R.box b else none, fun j => match j with | 0 => none | i + 1 => match bs[i]? with | some y => R.rows y | none => none, R.im⟩
theorem lentRen_at {b : Nat} {bs : List Nat} {j B : Nat} (h : At (lentRen R b bs) j B) : (j = 0 ∧ At R b B) ∨ ∃ i y, j = i + 1 ∧ bs[i]? = some y ∧ At R y B := by
  rcases h with h | ⟨r, h, rfl⟩
  · simp only [lentRen] at h
    split at h
    · rename_i e; exact .inl ⟨e, .inl h⟩
    · cases h
  · simp only [lentRen] at h
    cases j with
    | zero => cases h
    | succ i =>
      simp only at h
      cases hb : bs[i]? with
      | none => rw [hb] at h; cases h
      | some y => rw [hb] at h; exact .inr ⟨i, y, rfl, hb, .inr ⟨r, h, rfl⟩⟩
theorem lent_inv {b : Nat} {cs cs0 : List AV} {bs : List Nat} (I : Inv R σ w lo base) (hσ : σ[b]? = some (.box cs false)) (hlo : lo ≤ b) (hn : bs.Nodup) (hbs : ∀ y ∈ bs, lo ≤ y ∧ RowFree σ y)
    (hv : ∀ {vs : List Value}, VRels R cs vs → VRels (lentRen R b bs) cs0 vs) : Inv (lentRen R b bs) (.box cs0 false :: bs.map (blkAt σ)) w 0 base := by
  have hblk : ∀ {i y : Nat}, bs[i]? = some y → ∃ es g sz, σ[y]? = some (.rows es g sz false) ∧ AV.frees es = true ∧ (Blk.box cs0 false :: bs.map (blkAt σ))[i + 1]? = some (.rows es g sz false) := fun {i y} h => by
    obtain ⟨_, es, g, sz, h1, h2⟩ := hbs y (List.mem_of_getElem? h)
    refine ⟨es, g, sz, h1, h2, ?_⟩
    simp only [List.getElem?_cons_succ, List.getElem?_map, h, Option.map_some, blkAt, h1, Option.getD_some]
  have hbne : ∀ {i y : Nat}, bs[i]? = some y → y ≠ b := fun {i y} h e => by
    obtain ⟨es, g, sz, h1, _⟩ := hblk h
    subst e; rw [hσ] at h1; cases h1
  refine ⟨I.im, ?_, ?_, ?_, ?_, ?_, ?_, ?_, ?_, ?_⟩
  · intro j hj
    simp only [List.length_cons, List.length_map] at hj
    cases j with
    | zero => omega
    | succ i =>
      have : bs[i]? = none := List.getElem?_eq_none (by omega)
      exact ⟨by simp [lentRen], by simp [lentRen, this]⟩
  · intro j cs' fz h
    cases j with
    | zero => rfl
    | succ i =>
      cases hb : bs[i]? with
      | none => simp [lentRen, hb]
      | some y =>
        obtain ⟨es, g, sz, _, _, h3⟩ := hblk hb
        rw [h3] at h; cases h
  · intro j es g sz fz h
    cases j with
    | zero => simp at h
    | succ i => simp [lentRen]
  · intro j cs' fz h B hB
    cases j with
    | zero =>
      simp only [List.getElem?_cons_zero, Option.some.injEq, Blk.box.injEq] at h
      obtain ⟨rfl, rfl⟩ := h
      simp only [lentRen, if_true] at hB
      obtain ⟨c, T, q1, q2, _⟩ := I.box b cs false hσ B hB
      exact ⟨c, T, q1, hv q2, fun h => by cases h⟩
    | succ i => simp [lentRen] at hB
  · intro j es g sz fz h r hr
    cases j with
    | zero => simp at h
    | succ i =>
      cases hb : bs[i]? with
      | none => simp [lentRen, hb] at hr
      | some y =>
        obtain ⟨es', g', sz', h1, h2, h3⟩ := hblk hb
        rw [h3] at h
        cases h
        simp only [lentRen, hb] at hr
        obtain ⟨e1, p1, p2, p3, p4, c, T, q1, q2, q3, _⟩ := I.rows y es g sz false h1 r hr
        exact ⟨e1, p1, p2, p3, p4, c, T, q1, q2, VRels.of_free (R := R) (R' := lentRen R b bs) (fun _ _ _ e => e) q3 (frees_flat h2), fun h => by cases h⟩
  · intro j j' B h1 h2
    rcases lentRen_at h1 with ⟨rfl, a1⟩ | ⟨i, y, rfl, hy, a1⟩ <;> rcases lentRen_at h2 with ⟨rfl, a2⟩ | ⟨i', y', rfl, hy', a2⟩
    · rfl
    · exact absurd (I.apart y' b B a2 a1) (hbne hy')
    · exact absurd (I.apart y b B a1 a2) (hbne hy)
    · have := I.apart y y' B a1 a2
      subst this
      have e1 := look_get hn hy
      rw [look_get hn hy'] at e1
      cases e1; rfl
  · intro j B _ h
    rcases lentRen_at h with ⟨rfl, a⟩ | ⟨i, y, rfl, hy, a⟩
    · exact I.base b B hlo a
    · exact I.base y B (hbs y (List.mem_of_getElem? hy)).1 a
  · intro j cs' _ h B hB o
    cases j with
    | zero =>
      simp only [lentRen, if_true] at hB
      exact I.openB b cs hlo hσ B hB o
    | succ i => simp [lentRen] at hB
  · intro j es g sz _ h r hr o
    cases j with
    | zero => simp at h
    | succ i =>
      cases hb : bs[i]? with
      | none => simp [lentRen, hb] at hr
      | some y =>
        obtain ⟨es', g', sz', h1, h2, h3⟩ := hblk hb
        simp only [lentRen, hb] at hr
        exact I.openR y es' g' sz' (hbs y (List.mem_of_getElem? hb)).1 h1 r hr o
def backRen (R R2 : Ren) (n : Nat) (bs ns : List Nat) : Ren :=
  ⟨R.box, fun y => match look bs y with
    | some i => R2.rows (i + 1)
    | none => if y < n then R.rows y else match ns[y - n]? with | some c => R2.rows c | none => none, R2.im⟩
theorem lent_back {b : Nat} {cs cs1 cs2 : List AV} {bs ns : List Nat} {σ0 σ2 σ' : Sto} {R2 : Ren} {w' : World} (I : Inv R σ w lo base) (hb : base ≤ w.heap.size) (hσ : σ[b]? = some (.box cs false)) (hlo : lo ≤ b) (hn : bs.Nodup) (hbs : ∀ y ∈ bs, lo ≤ y ∧ RowFree σ y)
    (h0 : σ0.length = bs.length + 1) (hst : Step (lentRen R b bs) σ0 w 0 base R2 σ2 w') (hσ2 : σ2[0]? = some (.box cs1 false)) (hback : backRows σ2 bs σ.length cs1 [] = some (cs2, ns)) (hput : putRows σ2 bs 1 (σ.set b (.box cs2 false)) = some σ') :
    Step R σ w lo base (backRen R R2 σ.length bs ns) (σ' ++ ns.map (blkAt σ2)) w' := by
  have hblt : b < σ.length := (List.getElem?_eq_some_iff.1 hσ).1
  have hylt : ∀ y ∈ bs, y < σ.length := fun y hy => by
    obtain ⟨_, es, g, sz, h1, _⟩ := hbs y hy
    exact (List.getElem?_eq_some_iff.1 h1).1
  have hbn : ¬ b ∈ bs := fun h => by
    obtain ⟨_, es, g, sz, h1, _⟩ := hbs b h
    rw [hσ] at h1; cases h1
  obtain ⟨_, hnn, hnf, hvb⟩ := backRows_spec hback
  have hns := hnf (by simp)
  have hnd := hnn (by simp)
  obtain ⟨hlen, hoth, hrow⟩ := putRows_spec hput hn (by intro y hy; rw [List.length_set]; exact hylt y hy)
  rw [List.length_set] at hlen
  have I2 := hst.inv
  have himle : ∀ B o v, R.im B o = some v → R2.im B o = some v := hst.le.im
  have gb : (σ' ++ ns.map (blkAt σ2))[b]? = some (.box cs2 false) := by
    rw [List.getElem?_append_left (by omega), hoth b hbn, List.getElem?_set_self hblt]
  have gr : ∀ {i y : Nat}, bs[i]? = some y → (σ' ++ ns.map (blkAt σ2))[y]? = σ2[i + 1]? ∧ RowFree σ2 (i + 1) := fun {i y} h => by
    have := hrow i y h
    rw [Nat.add_comm 1 i] at this
    rw [List.getElem?_append_left (by rw [hlen]; exact hylt y (List.mem_of_getElem? h))]
    exact this
  have gn : ∀ {k c : Nat}, ns[k]? = some c → (σ' ++ ns.map (blkAt σ2))[σ.length + k]? = σ2[c]? ∧ RowFree σ2 c ∧ bs.length < c := fun {k c} h => by
    obtain ⟨h1, h2⟩ := hns c (List.mem_of_getElem? h)
    refine ⟨?_, h2, h1⟩
    obtain ⟨es, g, sz, h3, _⟩ := h2
    rw [List.getElem?_append_right (by omega), hlen, Nat.add_sub_cancel_left, List.getElem?_map, h, Option.map_some, h3, blkAt, h3]; rfl
  have go : ∀ {y : Nat}, y < σ.length → y ≠ b → ¬ y ∈ bs → (σ' ++ ns.map (blkAt σ2))[y]? = σ[y]? := fun {y} h1 h2 h3 => by
    rw [List.getElem?_append_left (by omega), hoth y h3, List.getElem?_set_ne (fun e => h2 e.symm)]
  have ge : ∀ {y : Nat}, σ.length ≤ y → ns[y - σ.length]? = none → (σ' ++ ns.map (blkAt σ2))[y]? = none := fun {y} h1 h2 => by
    have := List.getElem?_eq_none_iff.1 h2
    exact List.getElem?_eq_none (by simp only [List.length_append, List.length_map, hlen]; omega)
  have rb : ∀ {i y : Nat}, bs[i]? = some y → (backRen R R2 σ.length bs ns).rows y = R2.rows (i + 1) := fun {i y} h => by
    simp only [backRen, look_get hn h]
  have ro : ∀ {y : Nat}, y < σ.length → ¬ y ∈ bs → (backRen R R2 σ.length bs ns).rows y = R.rows y := fun {y} h1 h2 => by
    have : look bs y = none := by
      cases e : look bs y with
      | none => rfl
      | some i => exact absurd (List.mem_of_getElem? (look_some e)) h2
    simp only [backRen, this, h1, if_true]
  have rn : ∀ {y : Nat}, σ.length ≤ y → (backRen R R2 σ.length bs ns).rows y = (match ns[y - σ.length]? with | some c => R2.rows c | none => none) := fun {y} h1 => by
    have : look bs y = none := by
      cases e : look bs y with
      | none => rfl
      | some i => have := hylt y (List.mem_of_getElem? (look_some e)); omega
    simp only [backRen, this]
    rw [if_neg (by omega)]
  have box0 : R2.box 0 = R.box b := by
    rw [hst.boxOld 0 (by omega)]; simp [lentRen]
  have row0 : ∀ {i y : Nat}, bs[i]? = some y → (lentRen R b bs).rows (i + 1) = R.rows y := fun {i y} h => by simp [lentRen, h]
  have hle : R.Le (backRen R R2 σ.length bs ns) := by
    refine ⟨fun _ _ e => e, fun y r e => ?_, himle⟩
    by_cases hy : y ∈ bs
    · obtain ⟨i, hi⟩ := List.getElem?_of_mem hy
      rw [rb hi]
      exact hst.le.rows (i + 1) r (by rw [row0 hi]; exact e)
    · have : y < σ.length := I.at_lt (.inr ⟨r, e, rfl⟩)
      rw [ro this hy]
      exact ⟨r, e, Nat.le_refl _, fun _ => rfl⟩
  have hrels : ∀ {vs : List Value}, VRels R2 cs1 vs → VRels (backRen R R2 σ.length bs ns) cs2 vs := fun hv =>
    hvb (R2 := R2) (R' := backRen R R2 σ.length bs ns) (fun _ _ _ e => e) (fun i y h => rb h) (fun k c h => by rw [rn (by omega), Nat.add_sub_cancel_left, h]) hv
  have hat : ∀ {y B : Nat}, At (backRen R R2 σ.length bs ns) y B → (y ≠ b ∧ ¬ y ∈ bs ∧ y < σ.length ∧ At R y B) ∨ ∃ j, At R2 j B ∧ (y = b ∧ j = 0 ∨ (∃ i, bs[i]? = some y ∧ j = i + 1) ∨ ∃ k, ns[k]? = some j ∧ y = σ.length + k) := fun {y B} h => by
    rcases h with h | ⟨r, h, rfl⟩
    · by_cases e : y = b
      · subst e; exact .inr ⟨0, .inl (by rw [box0]; exact h), .inl ⟨rfl, rfl⟩⟩
      · have h' : At R y B := .inl h
        refine .inl ⟨e, fun hy => ?_, I.at_lt h', h'⟩
        obtain ⟨_, es, g, sz, h1, _⟩ := hbs y hy
        have := I.kindR y es g sz false h1
        rw [show R.box y = some B from h] at this; cases this
    · by_cases hy : y ∈ bs
      · obtain ⟨i, hi⟩ := List.getElem?_of_mem hy
        rw [rb hi] at h
        exact .inr ⟨i + 1, .inr ⟨r, h, rfl⟩, .inr (.inl ⟨i, hi, rfl⟩)⟩
      · by_cases hl : y < σ.length
        · rw [ro hl hy] at h
          refine .inl ⟨fun e => ?_, hy, hl, .inr ⟨r, h, rfl⟩⟩
          subst e
          have := I.kindB y cs false hσ
          rw [h] at this; cases this
        · rw [rn (by omega)] at h
          cases hk : ns[y - σ.length]? with
          | none => rw [hk] at h; cases h
          | some c =>
            rw [hk] at h
            exact .inr ⟨c, .inr ⟨r, h, rfl⟩, .inr (.inr ⟨y - σ.length, hk, by omega⟩)⟩
  have hfar : ∀ {x B j : Nat}, x ≠ b → ¬ x ∈ bs → At R x B → At R2 j B → False := fun {x B j} h1 h2 h3 h4 => by
    rcases hst.fresh j B (Nat.zero_le _) h4 with h5 | h5
    · rcases lentRen_at h5 with ⟨_, a⟩ | ⟨i, y, _, hy, a⟩
      · exact h1 (I.apart x b B h3 a)
      · exact h2 (by rw [I.apart x y B h3 a]; exact List.mem_of_getElem? hy)
    · have := I.at_heap h3; omega
  have hheap : ∀ {x B : Nat}, x ≠ b → ¬ x ∈ bs → At R x B → w'.heap[B]? = w.heap[B]? := fun {x B} h1 h2 h3 =>
    hst.frame B (I.at_heap h3) fun j _ h5 => by
      rcases lentRen_at h5 with ⟨_, a⟩ | ⟨i, y, _, hy, a⟩
      · exact h1 (I.apart x b B h3 a)
      · exact h2 (by rw [I.apart x y B h3 a]; exact List.mem_of_getElem? hy)
  have himno : ∀ {x B : Nat}, x ≠ b → ¬ x ∈ bs → At R x B → (∀ o, R.im B o = none) → ∀ o, R2.im B o = none := fun {x B} h1 h2 h3 h4 o => by
    cases e : R2.im B o with
    | none => rfl
    | some v =>
      rcases hst.imAt B o v e (h4 o) with ⟨j, _, h5⟩ | h5
      · rcases lentRen_at h5 with ⟨_, a⟩ | ⟨i, y, _, hy, a⟩
        · exact absurd (I.apart x b B h3 a) h1
        · exact absurd (by rw [I.apart x y B h3 a]; exact List.mem_of_getElem? hy) h2
      · have := I.at_heap h3; omega
  have hinv : Inv (backRen R R2 σ.length bs ns) (σ' ++ ns.map (blkAt σ2)) w' lo base := by
    refine ⟨I2.im, ?_, ?_, ?_, ?_, ?_, ?_, ?_, ?_, ?_⟩
    · intro y hy
      simp only [List.length_append, List.length_map, hlen] at hy
      refine ⟨(I.dom y (by omega)).1, ?_⟩
      rw [rn (by omega), List.getElem?_eq_none (by omega)]
    · intro y cs' fz h
      by_cases hy : y ∈ bs
      · obtain ⟨i, hi⟩ := List.getElem?_of_mem hy
        obtain ⟨h1, es, g, sz, h2, _⟩ := gr hi
        rw [h1, h2] at h; cases h
      · by_cases hl : y < σ.length
        · rw [ro hl hy]
          by_cases e : y = b
          · subst e; exact I.kindB y cs false hσ
          · rw [go hl e hy] at h; exact I.kindB y cs' fz h
        · rw [rn (by omega)]
          cases hk : ns[y - σ.length]? with
          | none => rfl
          | some c =>
            obtain ⟨h1, ⟨es, g, sz, h2, _⟩, _⟩ := gn hk
            rw [show σ.length + (y - σ.length) = y by omega, h2] at h1
            rw [h1] at h; cases h
    · intro y es g sz fz h
      by_cases e : y = b
      · subst e; rw [gb] at h; cases h
      · by_cases hy : y ∈ bs
        · obtain ⟨_, es', g', sz', h1, _⟩ := hbs y hy
          exact I.kindR y es' g' sz' false h1
        · by_cases hl : y < σ.length
          · rw [go hl e hy] at h; exact I.kindR y es g sz fz h
          · exact (I.dom y (by omega)).1
    · intro y cs' fz h B hB
      have hB' : R.box y = some B := hB
      by_cases e : y = b
      · subst e
        rw [gb] at h; cases h
        obtain ⟨c, T, q1, q2, _⟩ := I2.box 0 cs1 false hσ2 B (by rw [box0]; exact hB')
        exact ⟨c, T, q1, hrels q2, fun h => by cases h⟩
      · have hA : At R y B := .inl hB'
        have hl := I.at_lt hA
        have hy : ¬ y ∈ bs := fun hy => by
          obtain ⟨_, es', g', sz', h1, _⟩ := hbs y hy
          rw [I.kindR y es' g' sz' false h1] at hB'; cases hB'
        rw [go hl e hy] at h
        obtain ⟨c, T, q1, q2, q3⟩ := I.box y cs' fz h B hB'
        exact ⟨c, T, by rw [hheap e hy hA]; exact q1, q2.mono hle, fun hz o v hv => himle _ _ _ (q3 hz o v hv)⟩
    · intro y es g sz fz h r hr
      by_cases hy : y ∈ bs
      · obtain ⟨i, hi⟩ := List.getElem?_of_mem hy
        obtain ⟨h1, es', g', sz', h2, hf⟩ := gr hi
        rw [h1, h2] at h; cases h
        rw [rb hi] at hr
        obtain ⟨e1, p1, p2, p3, p4, c, T, q1, q2, q3, _⟩ := I2.rows (i + 1) es g sz false h2 r hr
        exact ⟨e1, p1, p2, p3, p4, c, T, q1, q2, VRels.of_free (R := R2) (R' := backRen R R2 σ.length bs ns) (fun _ _ _ e => e) q3 (frees_flat hf), fun h => by cases h⟩
      · by_cases hl : y < σ.length
        · have e : y ≠ b := fun e => by subst e; rw [gb] at h; cases h
          rw [ro hl hy] at hr
          rw [go hl e hy] at h
          have hA : At R y r.blk := .inr ⟨r, hr, rfl⟩
          obtain ⟨e1, p1, p2, p3, p4, c, T, q1, q2, q3, q4⟩ := I.rows y es g sz fz h r hr
          exact ⟨e1, p1, p2, p3, p4, c, T, by rw [hheap e hy hA]; exact q1, q2, q3.mono hle, fun hz o v ho hv => himle _ _ _ (q4 hz o v ho hv)⟩
        · rw [rn (by omega)] at hr
          cases hk : ns[y - σ.length]? with
          | none => rw [hk] at hr; cases hr
          | some c0 =>
            rw [hk] at hr
            obtain ⟨h1, ⟨es', g', sz', h2, hf⟩, _⟩ := gn hk
            rw [show σ.length + (y - σ.length) = y by omega, h2] at h1
            rw [h1] at h; cases h
            obtain ⟨e1, p1, p2, p3, p4, c, T, q1, q2, q3, _⟩ := I2.rows c0 es g sz false h2 r hr
            exact ⟨e1, p1, p2, p3, p4, c, T, q1, q2, VRels.of_free (R := R2) (R' := backRen R R2 σ.length bs ns) (fun _ _ _ e => e) q3 (frees_flat hf), fun h => by cases h⟩
    · intro y y' B h1 h2
      rcases hat h1 with ⟨e1, m1, l1, a1⟩ | ⟨j, a1, k1⟩ <;> rcases hat h2 with ⟨e2, m2, l2, a2⟩ | ⟨j', a2, k2⟩
      · exact I.apart y y' B a1 a2
      · exact (hfar e1 m1 a1 a2).elim
      · exact (hfar e2 m2 a2 a1).elim
      · have := I2.apart j j' B a1 a2
        subst this
        rcases k1 with ⟨rfl, rfl⟩ | ⟨i, hi, rfl⟩ | ⟨k, hk, rfl⟩ <;> rcases k2 with ⟨rfl, k2⟩ | ⟨i', hi', k2⟩ | ⟨k', hk', rfl⟩
        · rfl
        · omega
        · have := (gn hk').2.2; omega
        · omega
        · have : i = i' := by omega
          subst this; rw [hi] at hi'; exact Option.some.inj hi'
        · have h1 := (gn hk').2.2
          have h2 := (List.getElem?_eq_some_iff.1 hi).1
          omega
        · have := (gn hk).2.2; omega
        · have h1 := (gn hk).2.2
          have h2 := (List.getElem?_eq_some_iff.1 hi').1
          omega
        · have e1 := look_get hnd hk
          rw [look_get hnd hk'] at e1
          cases e1; rfl
    · intro y B hy h
      rcases hat h with ⟨_, _, _, a⟩ | ⟨j, a, _⟩
      · exact I.base y B hy a
      · exact I2.base j B (Nat.zero_le _) a
    · intro y cs' hy h B hB o
      have hB' : R.box y = some B := hB
      by_cases e : y = b
      · subst e
        exact I2.openB 0 cs1 (Nat.zero_le _) hσ2 B (by rw [box0]; exact hB') o
      · have hA : At R y B := .inl hB'
        have hl := I.at_lt hA
        have hm : ¬ y ∈ bs := fun hm => by
          obtain ⟨_, es', g', sz', h1, _⟩ := hbs y hm
          rw [I.kindR y es' g' sz' false h1] at hB'; cases hB'
        rw [go hl e hm] at h
        exact himno e hm hA (I.openB y cs' hy h B hB') o
    · intro y es g sz hy h r hr o
      by_cases hm : y ∈ bs
      · obtain ⟨i, hi⟩ := List.getElem?_of_mem hm
        obtain ⟨h1, es', g', sz', h2, hf⟩ := gr hi
        rw [rb hi] at hr
        exact I2.openR (i + 1) es' g' sz' (Nat.zero_le _) h2 r hr o
      · by_cases hl : y < σ.length
        · have e : y ≠ b := fun e => by subst e; rw [gb] at h; cases h
          rw [ro hl hm] at hr
          rw [go hl e hm] at h
          exact himno e hm (.inr ⟨r, hr, rfl⟩) (I.openR y es g sz hy h r hr) o
        · rw [rn (by omega)] at hr
          cases hk : ns[y - σ.length]? with
          | none => rw [hk] at hr; cases hr
          | some c0 =>
            rw [hk] at hr
            obtain ⟨h1, ⟨es', g', sz', h2, hf⟩, _⟩ := gn hk
            exact I2.openR c0 es' g' sz' (Nat.zero_le _) h2 r hr o
  refine ⟨hle, hinv, hst.below, fun B o v e n => hst.imNew B o v e n, fun y hy => ?_, by simp only [List.length_append, hlen]; omega, fun _ _ => rfl, fun y h1 h2 => ?_, fun B hB hno => ?_, fun y B hy hA => ?_, fun B o v e n => ?_⟩
  · exact go (by omega) (by omega) (fun hm => by have := (hbs y hm).1; omega)
  · exact ro h2 (fun hm => by have := (hbs y hm).1; omega)
  · refine hst.frame B hB fun j _ h5 => ?_
    rcases lentRen_at h5 with ⟨_, a⟩ | ⟨i, y, _, hy, a⟩
    · exact hno b hlo a
    · exact hno y (hbs y (List.mem_of_getElem? hy)).1 a
  · rcases hat hA with ⟨_, _, _, a⟩ | ⟨j, a, k⟩
    · exact .inl a
    · rcases hst.fresh j B (Nat.zero_le _) a with h5 | h5
      · rcases lentRen_at h5 with ⟨rfl, a'⟩ | ⟨i, y', rfl, hy', a'⟩
        · rcases k with ⟨rfl, _⟩ | ⟨i, _, h⟩ | ⟨k, hk, _⟩
          · exact .inl a'
          · omega
          · have := (gn hk).2.2; omega
        · rcases k with ⟨_, h⟩ | ⟨i', hi', h⟩ | ⟨k, hk, _⟩
          · omega
          · have : i = i' := by omega
            subst this; rw [hy'] at hi'; cases hi'; exact .inl a'
          · have h1 := (gn hk).2.2
            have h2 := (List.getElem?_eq_some_iff.1 hy').1
            omega
      · exact .inr h5
  · rcases hst.imAt B o v e n with ⟨j, _, h5⟩ | h5
    · rcases lentRen_at h5 with ⟨_, a⟩ | ⟨i, y, _, hy, a⟩
      · exact .inl ⟨b, hlo, a⟩
      · exact .inl ⟨y, (hbs y (List.mem_of_getElem? hy)).1, a⟩
    · exact .inr h5
theorem outCell_rel {R4 R5 : Ren} {σ4 : Sto} {w' : World} {i G : Nat} {c : AV} {v : Value} (I4 : Inv R4 σ4 w' 0 base) (h : outOk σ4 i c = true) (him : R5.im = R4.im) (hr : R5.rows i = (R4.rows (outIx i c)).map fun r => { r with gen := G }) (hv : VRel R4 c v) : VRel R5 (outCell i G c) v := by
  unfold outOk at h
  split at h
  · rename_i b g off len
    simp only [Bool.and_eq_true, beq_iff_eq] at h
    obtain ⟨⟨_, h2⟩, h3⟩ := h
    obtain ⟨es, g', sz, hσ, _⟩ := rowOk_free h2
    have hg : rowGen σ4 b = g' := by simp [rowGen, hσ]
    simp only [outIx] at hr
    cases hv with
    | sl _ _ p hR hl hp =>
      rw [hR, Option.map_some] at hr
      exact .sl off len p hr hl hp
    | slOld _ _ p cap hR hlt =>
      have := (I4.rows b es g' sz false hσ _ hR).1
      omega
  · rename_i hn
    simp only [Bool.and_eq_true] at h
    have : outCell i G c = c := by
      unfold outCell
      split
      · exact absurd rfl (hn _ _ _ _)
      · rfl
    rw [this]
    exact hv.of_free (fun B o v e => by rw [him]; exact e) h.1
theorem outOk_row {σ4 : Sto} {i : Nat} {c : AV} (h : outOk σ4 i c = true) : (outIx i c = i ∨ 3 ≤ outIx i c) ∧ RowFree σ4 (outIx i c) := by
  unfold outOk at h
  split at h
  · simp only [Bool.and_eq_true, Bool.or_eq_true, beq_iff_eq, decide_eq_true_eq] at h
    exact ⟨h.1.1, rowOk_free h.1.2⟩
  · rename_i hn
    simp only [Bool.and_eq_true] at h
    have : outIx i c = i := by
      unfold outIx
      split
      · exact absurd rfl (hn _ _ _ _)
      · rfl
    rw [this]
    exact ⟨.inl rfl, rowOk_free h.2⟩
theorem lent_out {R0 R2 : Ren} {σ0 σ2 σ3 : Sto} {w w' : World} {g1 g2 B : Nat} (I0 : Inv R0 σ0 w 0 base) (h0 : σ0.length = 3) (hB : R0.box 0 = some B) (hbox : ∀ j, j ≠ 0 → R0.box j = none) (hrow0 : R0.rows 0 = none) (hgen1 : ∀ r, R0.rows 1 = some r → r.gen = g1) (hgen2 : ∀ r, R0.rows 2 = some r → r.gen = g2)
    (hst : Step R0 σ0 w 0 base R2 σ2 w') (h : lentOut g1 g2 σ2 = some σ3) : ∃ R3, Step R0 σ0 w 0 base R3 σ3 w' ∧ ∀ B o v, R2.im B o = some v → R3.im B o = some v := by
  unfold lentOut at h
  split at h
  · rename_i cs hσ2
    rw [List.head?_eq_getElem?] at hσ2
    split at h
    · rename_i c1 c2 post hd
      split at h
      · rename_i pre' σ3' e1
        split at h
        · rename_i post' σ4 e2
          split at h
          · rename_i ds hσ4
            rw [List.head?_eq_getElem?] at hσ4
            split at h
            · rename_i hc
              obtain ⟨hf1, hf2, ho1, ho2, hne⟩ := hc
              cases h
              have I2 := hst.inv
              have hB2 : R2.box 0 = some B := hst.le.box 0 B hB
              obtain ⟨c, T, hw, hv, _⟩ := I2.box 0 cs false hσ2 B hB2
              have hdr := hv.drop 38
              rw [hd] at hdr
              obtain ⟨R3, s3, hpre⟩ := snapsW_ok (snap_ok 6).1 e1 I2 (hv.take 38)
              have hsplit := List.take_append_drop 38 c.toList
              generalize hus : c.toList.drop 38 = us at hdr
              cases hdr with
              | cons q1 t =>
                cases t with
                | cons q2 t =>
                  rename_i v1 _ v2 vp
                  obtain ⟨R4, s4, hpost⟩ := snapsW_ok (snap_ok 6).1 e2 s3.inv (t.mono s3.le)
                  have hst4 := (hst.trans s3).trans s4
                  have I4 := hst4.inv
                  have hB4 : R4.box 0 = some B := hst4.le.box 0 B hB
                  have hle24 : R2.Le R4 := s3.le.trans s4.le
                  obtain ⟨k1, r1⟩ := outOk_row ho1
                  obtain ⟨k2, r2⟩ := outOk_row ho2
                  have hs1 : ∀ r, R0.rows 1 = some r → ∃ r', R4.rows (outIx 1 c1) = some r' := fun r e => by
                    unfold outIx
                    split
                    · cases q1 with
                      | sl _ _ p hR _ _ => obtain ⟨r', e', _⟩ := hle24.rows _ _ hR; exact ⟨r', e'⟩
                      | slOld _ _ p cap hR _ => obtain ⟨r', e', _⟩ := hle24.rows _ _ hR; exact ⟨r', e'⟩
                    · obtain ⟨r', e', _⟩ := hst4.le.rows _ _ e; exact ⟨r', e'⟩
                  have hs2 : ∀ r, R0.rows 2 = some r → ∃ r', R4.rows (outIx 2 c2) = some r' := fun r e => by
                    unfold outIx
                    split
                    · cases q2 with
                      | sl _ _ p hR _ _ => obtain ⟨r', e', _⟩ := hle24.rows _ _ hR; exact ⟨r', e'⟩
                      | slOld _ _ p cap hR _ => obtain ⟨r', e', _⟩ := hle24.rows _ _ hR; exact ⟨r', e'⟩
                    · obtain ⟨r', e', _⟩ := hst4.le.rows _ _ e; exact ⟨r', e'⟩
                  generalize hG1 : g1 + rowGen σ4 (outIx 1 c1) + 1 = G1
                  generalize hG2 : g2 + rowGen σ4 (outIx 2 c2) + 1 = G2
                  have hl1 := outCell_rel (G := G1) (R5 := ⟨fun j => if j = 0 then R4.box 0 else none, fun j => if j = 1 then (R4.rows (outIx 1 c1)).map (fun r => { r with gen := G1 }) else if j = 2 then (R4.rows (outIx 2 c2)).map (fun r => { r with gen := G2 }) else none, R4.im⟩) I4 ho1 rfl rfl (q1.mono hle24)
                  have hl2 := outCell_rel (G := G2) (R5 := ⟨fun j => if j = 0 then R4.box 0 else none, fun j => if j = 1 then (R4.rows (outIx 1 c1)).map (fun r => { r with gen := G1 }) else if j = 2 then (R4.rows (outIx 2 c2)).map (fun r => { r with gen := G2 }) else none, R4.im⟩) I4 ho2 rfl rfl (q2.mono hle24)
                  generalize hb1 : outIx 1 c1 = b1 at *
                  generalize hb2 : outIx 2 c2 = b2 at *
                  obtain ⟨es1, ge1, sz1, hσ1, hfe1⟩ := r1
                  obtain ⟨es2, ge2, sz2, hσ2', hfe2⟩ := r2
                  have hk1 : outBlk σ4 b1 G1 = .rows es1 G1 sz1 false := by simp [outBlk, hσ1]
                  have hk2 : outBlk σ4 b2 G2 = .rows es2 G2 sz2 false := by simp [outBlk, hσ2']
                  rw [hk1, hk2]
                  generalize hR5 : (⟨fun j => if j = 0 then R4.box 0 else none, fun j => if j = 1 then (R4.rows b1).map (fun r => { r with gen := G1 }) else if j = 2 then (R4.rows b2).map (fun r => { r with gen := G2 }) else none, R4.im⟩ : Ren) = R5 at *
                  have p0 : R5.box 0 = R4.box 0 := by rw [← hR5]; rfl
                  have pb : ∀ j, j ≠ 0 → R5.box j = none := fun j hj => by rw [← hR5]; simp [hj]
                  have p1 : R5.rows 1 = (R4.rows b1).map (fun r => { r with gen := G1 }) := by rw [← hR5]; rfl
                  have p2 : R5.rows 2 = (R4.rows b2).map (fun r => { r with gen := G2 }) := by rw [← hR5]; rfl
                  have pr : ∀ j, j ≠ 1 → j ≠ 2 → R5.rows j = none := fun j h1 h2 => by rw [← hR5]; simp [h1, h2]
                  have pim : R5.im = R4.im := by rw [← hR5]
                  have him : ∀ B o v, R4.im B o = some v → R5.im B o = some v := fun B o v e => by rw [pim]; exact e
                  have hat : ∀ {j B'}, At R5 j B' → (j = 0 ∧ At R4 0 B') ∨ (j = 1 ∧ At R4 b1 B') ∨ (j = 2 ∧ At R4 b2 B') := fun {j B'} hA => by
                    rcases hA with hA | ⟨r, hA, rfl⟩
                    · by_cases hj : j = 0
                      · subst hj; rw [p0] at hA; exact .inl ⟨rfl, .inl hA⟩
                      · rw [pb j hj] at hA; cases hA
                    · by_cases h1 : j = 1
                      · subst h1
                        rw [p1] at hA
                        cases e : R4.rows b1 with
                        | none => rw [e] at hA; cases hA
                        | some r' => rw [e] at hA; cases hA; exact .inr (.inl ⟨rfl, .inr ⟨r', e, rfl⟩⟩)
                      · by_cases h2 : j = 2
                        · subst h2
                          rw [p2] at hA
                          cases e : R4.rows b2 with
                          | none => rw [e] at hA; cases hA
                          | some r' => rw [e] at hA; cases hA; exact .inr (.inr ⟨rfl, .inr ⟨r', e, rfl⟩⟩)
                        · rw [pr j h1 h2] at hA; cases hA
                  have hbase : ∀ {j B'}, At R4 j B' → base ≤ B' := fun {j B'} hA => I4.base j B' (Nat.zero_le _) hA
                  have inv5 : Inv R5 [.box (pre' ++ outCell 1 G1 c1 :: outCell 2 G2 c2 :: post') false, .rows es1 G1 sz1 false, .rows es2 G2 sz2 false] w' 0 base := by
                    refine ⟨fun B o v e => I4.im B o v (by rw [← pim]; exact e), ?_, ?_, ?_, ?_, ?_, ?_, ?_, ?_, ?_⟩
                    · intro j hj
                      simp only [List.length_cons, List.length_nil] at hj
                      exact ⟨pb j (by omega), pr j (by omega) (by omega)⟩
                    · intro j cs' fz hj
                      rcases j with _ | _ | _ | j
                      · exact pr 0 (by omega) (by omega)
                      · simp at hj
                      · simp at hj
                      · simp at hj
                    · intro j es g sz fz hj
                      rcases j with _ | j
                      · simp at hj
                      · exact pb _ (by omega)
                    · intro j cs' fz hj B' hB'
                      rcases j with _ | j
                      · simp only [List.getElem?_cons_zero, Option.some.injEq, Blk.box.injEq] at hj
                        obtain ⟨rfl, rfl⟩ := hj
                        rw [p0, hB4] at hB'; cases hB'
                        refine ⟨c, T, hw, ?_, fun h => by cases h⟩
                        rw [← hsplit, hus]
                        exact ((hpre.mono s4.le).of_free him hf1).append (.cons hl1 (.cons hl2 (hpost.of_free him hf2)))
                      · rw [pb _ (by omega)] at hB'; cases hB'
                    · intro j es g sz fz hj r hr
                      rcases j with _ | _ | _ | j
                      · simp at hj
                      · simp only [Nat.zero_add, List.getElem?_cons_succ, List.getElem?_cons_zero, Option.some.injEq, Blk.rows.injEq] at hj
                        obtain ⟨rfl, rfl, rfl, rfl⟩ := hj
                        rw [Nat.zero_add, p1] at hr
                        cases e : R4.rows b1 with
                        | none => rw [e] at hr; cases hr
                        | some r' =>
                          rw [e] at hr; cases hr
                          obtain ⟨_, a1, a2, a3, a4, c', T', a5, a6, a7, _⟩ := I4.rows b1 es1 ge1 sz1 false hσ1 r' e
                          exact ⟨rfl, a1, a2, a3, a4, c', T', a5, a6, a7.of_free him (frees_flat hfe1), fun h => by cases h⟩
                      · simp only [List.getElem?_cons_succ, List.getElem?_cons_zero, Option.some.injEq, Blk.rows.injEq] at hj
                        obtain ⟨rfl, rfl, rfl, rfl⟩ := hj
                        rw [show 0 + 1 + 1 = 2 from rfl, p2] at hr
                        cases e : R4.rows b2 with
                        | none => rw [e] at hr; cases hr
                        | some r' =>
                          rw [e] at hr; cases hr
                          obtain ⟨_, a1, a2, a3, a4, c', T', a5, a6, a7, _⟩ := I4.rows b2 es2 ge2 sz2 false hσ2' r' e
                          exact ⟨rfl, a1, a2, a3, a4, c', T', a5, a6, a7.of_free him (frees_flat hfe2), fun h => by cases h⟩
                      · simp at hj
                    · intro j j' B' hA hA'
                      rcases hat hA with ⟨rfl, a⟩ | ⟨rfl, a⟩ | ⟨rfl, a⟩ <;> rcases hat hA' with ⟨rfl, a'⟩ | ⟨rfl, a'⟩ | ⟨rfl, a'⟩ <;> first | rfl | (have := I4.apart _ _ _ a a'; omega)
                    · intro j B' _ hA
                      rcases hat hA with ⟨rfl, a⟩ | ⟨rfl, a⟩ | ⟨rfl, a⟩ <;> exact hbase a
                    · intro j cs' _ hj B' hB' o
                      rcases j with _ | j
                      · rw [pim]; exact I4.openB 0 ds (Nat.zero_le _) hσ4 B' (by rw [← p0]; exact hB') o
                      · rw [pb _ (by omega)] at hB'; cases hB'
                    · intro j es g sz _ hj r hr o
                      rcases j with _ | _ | _ | j
                      · simp at hj
                      · rw [Nat.zero_add, p1] at hr
                        cases e : R4.rows b1 with
                        | none => rw [e] at hr; cases hr
                        | some r' => rw [e] at hr; cases hr; rw [pim]; exact I4.openR b1 es1 ge1 sz1 (Nat.zero_le _) hσ1 r' e o
                      · rw [show 0 + 1 + 1 = 2 from rfl, p2] at hr
                        cases e : R4.rows b2 with
                        | none => rw [e] at hr; cases hr
                        | some r' => rw [e] at hr; cases hr; rw [pim]; exact I4.openR b2 es2 ge2 sz2 (Nat.zero_le _) hσ2' r' e o
                      · simp at hj
                  refine ⟨R5, ⟨⟨fun j B' e => ?_, fun j r e => ?_, fun B' o v e => ?_⟩, inv5, hst4.below, fun B' o v e n => hst4.imNew B' o v (by rw [← pim]; exact e) n, fun j hj => absurd hj (by omega), by simp [h0], fun j hj => ?_, fun j hj => absurd hj (by omega), hst4.frame, fun j B' _ hA => ?_, fun B' o v e n => hst4.imAt B' o v (by rw [← pim]; exact e) n⟩, fun B' o v e => by rw [pim]; exact hle24.im B' o v e⟩
                  · by_cases hj : j = 0
                    · subst hj; rw [p0]; exact hst4.le.box 0 B' e
                    · rw [hbox j hj] at e; cases e
                  · have hlt : j < σ0.length := I0.at_lt (.inr ⟨r, e, rfl⟩)
                    have hj0 : j ≠ 0 := fun hj => by subst hj; rw [hrow0] at e; cases e
                    have : j = 1 ∨ j = 2 := by omega
                    rcases this with rfl | rfl
                    · obtain ⟨r', e'⟩ := hs1 r e
                      have hg := hgen1 r e
                      exact ⟨{ r' with gen := G1 }, by rw [p1, e']; rfl, by show r.gen ≤ G1; omega, fun hq => by have : r.gen = G1 := hq; omega⟩
                    · obtain ⟨r', e'⟩ := hs2 r e
                      have hg := hgen2 r e
                      exact ⟨{ r' with gen := G2 }, by rw [p2, e']; rfl, by show r.gen ≤ G2; omega, fun hq => by have : r.gen = G2 := hq; omega⟩
                  · rw [pim]; exact hst4.le.im B' o v e
                  · by_cases hj0 : j = 0
                    · subst hj0; rw [p0]; exact hst4.boxOld 0 hj
                    · rw [pb j hj0, hbox j hj0]
                  · have hfr : ∀ {k}, At R4 k B' → (k = j ∨ 3 ≤ k) → At R0 j B' ∨ w.heap.size ≤ B' := fun {k} a hk => by
                      rcases hst4.fresh k B' (Nat.zero_le _) a with h5 | h5
                      · rcases hk with rfl | hk
                        · exact .inl h5
                        · have := I0.at_lt h5; omega
                      · exact .inr h5
                    rcases hat hA with ⟨rfl, a⟩ | ⟨rfl, a⟩ | ⟨rfl, a⟩
                    · exact hfr a (.inl rfl)
                    · exact hfr a k1
                    · exact hfr a k2
            · cases h
          · cases h
        · cases h
      · cases h
    · cases h
  · cases h
theorem lentGo_ok {cfg : Cfg} {call : Caller} (hcall : CallOk P cfg call) {f b y1 y2 B : Nat} {args0 : List AV} {r : AV} {σ' : Sto} {vs : List Value} (h : lentGo call f lo σ b y1 y2 args0 = some (r, σ'))
    (I : Inv R σ w lo base) (hb : base ≤ w.heap.size) (hg : GlobOk cfg R) (hB : R.box b = some B) (hv : ∀ {R0 : Ren}, R0.im = R.im → R0.box 0 = R.box b → VRels R0 args0 vs) : Calls P f vs.toArray w (Post R σ w lo base r σ') := by
  unfold lentGo at h
  split at h
  · rename_i cs hσ
    split at h
    · rename_i hc
      obtain ⟨hlo, hl1, hl2, hy, hr1, hr2⟩ := hc
      split at h
      · rename_i cs0 htk
        split at h
        · rename_i r1 σ1 hc
          split at h
          · rename_i r' σ2 hsn
            split at h
            · rename_i hfree
              split at h
              · rename_i σ3 hout
                split at h
                · rename_i cs1 hh
                  split at h
                  · rename_i cs2 ns hbk
                    split at h
                    · rename_i σ4 hput
                      simp only [Option.some.injEq, Prod.mk.injEq] at h
                      obtain ⟨rfl, rfl⟩ := h
                      have hn : [y1, y2].Nodup := by simp [hy]
                      have hbs : ∀ y ∈ [y1, y2], lo ≤ y ∧ RowFree σ y := fun y hm => by
                        simp only [List.mem_cons, List.not_mem_nil, or_false] at hm
                        rcases hm with rfl | rfl
                        · exact ⟨hl1, rowOk_free hr1⟩
                        · exact ⟨hl2, rowOk_free hr2⟩
                      have hgen : ∀ {y : Nat}, rowOk σ y = true → ∀ r, R.rows y = some r → r.gen = rowGen σ y := fun {y} hok r e => by
                        obtain ⟨es, g, sz, hs, _⟩ := rowOk_free hok
                        rw [(I.rows y es g sz false hs r e).1]; simp [rowGen, hs]
                      have I0 := lent_inv (cs0 := cs0) I hσ hlo hn hbs (fun hv => lentIn_rel (R := R) (R0 := lentRen R b [y1, y2]) htk rfl rfl rfl hv)
                      have hg0 : GlobOk cfg (lentRen R b [y1, y2]) := fun g cs h => ⟨CellsAt.of_free (R := R) (R' := lentRen R b [y1, y2]) (fun _ _ _ h => h) (hg g cs h).1 (hg g cs h).2, (hg g cs h).2⟩
                      refine (hcall f args0 0 _ r1 σ1 hc (lentRen R b [y1, y2]) w base vs I0 hb (Nat.zero_le _) hg0 (hv rfl (by simp [lentRen]))).mono ?_
                      rintro e w' ⟨v, R1, h1, h2, h3⟩
                      obtain ⟨R2, hst2, hr2', _⟩ := (snap_ok 6).1 hsn h2.inv h3
                      have hst := h2.trans hst2
                      obtain ⟨R3, hst3, him3⟩ := lent_out I0 rfl (B := B) (by simpa [lentRen] using hB) (fun j hj => by simp [lentRen, hj]) rfl (hgen hr1) (hgen hr2) hst hout
                      have h00 : σ3[0]? = some (.box cs1 false) := by rw [← List.head?_eq_getElem?]; exact hh
                      have hfin := lent_back I hb hσ hlo hn hbs (by simp) hst3 h00 hbk hput
                      exact ⟨v, _, h1, hfin, VRel.of_free (R := R2) (R' := backRen R R3 σ.length [y1, y2] ns) him3 hr2' hfree⟩
                    · cases h
                  · cases h
                · cases h
              · cases h
            · cases h
          · cases h
        · cases h
      · cases h
    · cases h
  · cases h
theorem lentA_ok {cfg : Cfg} {call : Caller} (hcall : CallOk P cfg call) {sl : Nat → Nat × Nat} {f : Nat} {args : List AV} {r : AV} {σ' : Sto} {vs : List Value} (h : lentA sl call f lo σ args = some (r, σ'))
    (I : Inv R σ w lo base) (hb : base ≤ w.heap.size) (hg : GlobOk cfg R) (hv : VRels R args vs) : Calls P f vs.toArray w (Post R σ w lo base r σ') := by
  unfold lentA at h
  split at h
  · rename_i b rest
    split at h
    · rename_i hf
      cases hv with
      | cons h1 h2 =>
        cases h1 with
        | ptr _ hB =>
          exact lentGo_ok hcall h I hb hg hB fun {R0} him hbox => .cons (.ptr 0 (by rw [hbox]; exact hB)) (h2.of_free (fun B o v e => by rw [him]; exact e) hf)
    · cases h
  · rename_i b cs rest
    split at h
    · rename_i hf
      cases hv with
      | cons h1 h2 =>
        cases h1 with
        | agg h3 =>
          cases h3 with
          | cons h4 h5 =>
            cases h4 with
            | ptr _ hB =>
              exact lentGo_ok hcall h I hb hg hB fun {R0} him hbox => .cons (.agg (.cons (.ptr 0 (by rw [hbox]; exact hB)) (h5.of_free (fun B o v e => by rw [him]; exact e) hf.1))) (h2.of_free (fun B o v e => by rw [him]; exact e) hf.2)
    · cases h
  · cases h
theorem Step.pad (I : Inv R σ w lo base) (hlo : lo ≤ σ.length) : Step R σ w lo base R (σ ++ [.rows [] 0 0 false]) w := by
  have hget : ∀ {b x}, (σ ++ [Blk.rows [] 0 0 false])[b]? = some x → σ[b]? = some x ∨ (b = σ.length ∧ x = .rows [] 0 0 false) := fun {b x} h => by
    by_cases hb : b < σ.length
    · rw [List.getElem?_append_left hb] at h; exact .inl h
    · rw [List.getElem?_append_right (by omega)] at h
      have : b - σ.length = 0 := by
        cases hq : b - σ.length with
        | zero => rfl
        | succ n => rw [hq] at h; simp at h
      rw [this] at h
      simp at h
      exact .inr ⟨by omega, h.symm⟩
  have hd := I.dom σ.length (Nat.le_refl _)
  refine ⟨.refl R, ⟨I.im, fun b hb => I.dom b (by simp at hb; omega), fun b cs fz h => ?_, fun b es g sz fz h => ?_, fun b cs fz h B hB => ?_, fun b es g sz fz h r hr => ?_, I.apart, I.base, fun b cs hb h B hB => ?_, fun b es g sz hb h r hr => ?_⟩, .refl _ _, fun _ _ _ h h' => absurd h (by simp [h']), fun b hb => ?_, by simp, fun _ _ => rfl, fun _ _ _ => rfl, fun _ _ _ => rfl, fun _ _ _ h => .inl h, fun _ _ _ h h' => absurd h (by simp [h'])⟩
  · rcases hget h with h | ⟨_, h⟩
    · exact I.kindB b cs fz h
    · cases h
  · rcases hget h with h | ⟨rfl, _⟩
    · exact I.kindR b es g sz fz h
    · exact hd.1
  · rcases hget h with h | ⟨_, h⟩
    · exact I.box b cs fz h B hB
    · cases h
  · rcases hget h with h | ⟨rfl, _⟩
    · exact I.rows b es g sz fz h r hr
    · rw [hd.2] at hr; cases hr
  · rcases hget h with h | ⟨_, h⟩
    · exact I.openB b cs hb h B hB
    · cases h
  · rcases hget h with h | ⟨rfl, _⟩
    · exact I.openR b es g sz hb h r hr
    · rw [hd.2] at hr; cases hr
  · rw [List.getElem?_append_left (by omega)]
theorem Calls.conseq {f : Nat} {vs : Array Value} {Q Q' : Ending → World → Prop} (h : Calls P f vs w Q) (hq : ∀ e w', Q e w' → Q' e w') : Calls P f vs w Q' := h.mono hq
theorem enter_ok {cfg : Cfg} {call : Caller} (hcfg : CfgOk P cfg) (hcall : CallOk P cfg call) {caller f : Nat} {args : List AV} {r : AV} {σ' : Sto} {vs : List Value} (h : enterA P cfg call caller lo σ f args = some (r, σ'))
    (I : Inv R σ w lo base) (hb : base ≤ w.heap.size) (hlo : lo ≤ σ.length) (hg : GlobOk cfg R) (hv : VRels R args vs) : Calls P f vs.toArray w (Post R σ w lo base r σ') := by
  unfold enterA at h
  split at h
  · rename_i T hT
    exact hcfg.clone f T hT args r σ σ' h R w lo base vs I hb hlo hv
  · split at h
    · rename_i e he
      cases e1 : snapsW (snap lo 6) σ args with
      | none => simp [e1] at h
      | some q =>
        obtain ⟨args', σ1⟩ := q
        simp only [e1] at h
        split at h
        · rename_i hfree
          cases e2 : e args' with
          | none => simp [e2] at h
          | some r' =>
            simp only [e2] at h
            split at h
            · rename_i hrf
              cases h
              obtain ⟨R1, hst, hr⟩ := snapsW_ok (snap_ok 6).1 e1 I hv
              exact (hcfg.ext f e he args' _ e2 hfree hrf R1 _ w lo base vs hst.inv hb hr).mono fun e w' ⟨v, R', h1, h2, h3⟩ => ⟨v, R', h1, hst.trans h2, h3⟩
            · cases h
        · cases h
    · split at h
      · exact hcall f args lo σ r σ' h R w base vs I hb hlo hg hv
      · cases e1 : snapsW (snap lo 6) σ args with
        | none => simp [e1] at h
        | some q =>
          obtain ⟨args', σ1⟩ := q
          simp only [e1] at h
          unfold readW at h
          split at h
          · rename_i hfa
            cases e2 : call f args' 0 [] with
            | none => simp [e2] at h
            | some q2 =>
              obtain ⟨r1, σ2⟩ := q2
              simp only [e2] at h
              cases e3 : snap 0 6 σ2 r1 with
              | none => simp [e3] at h
              | some q3 =>
                obtain ⟨r2, σ3⟩ := q3
                simp only [e3] at h
                split at h
                · rename_i hfree
                  cases h
                  obtain ⟨R1, hst, hr⟩ := snapsW_ok (snap_ok 6).1 e1 I hv
                  have I1 := hst.inv
                  have hr0 : VRels R1.bare args' vs := VRels.of_free (R := R1) (R' := R1.bare) (fun _ _ _ h => h) hr hfa
                  refine (hcall f args' 0 [] r1 σ2 e2 R1.bare w w.heap.size vs (I1.bare _ _) (Nat.le_refl _) (Nat.le_refl _) (hg.mono hst.le).bare hr0).mono ?_
                  rintro e w' ⟨v, R2, h1, h2, h3⟩
                  obtain ⟨R3, hst3, hr3, _⟩ := (snap_ok 6).1 e3 h2.inv h3
                  have hd := Step.read I1 hb (h2.trans hst3)
                  exact ⟨v, _, h1, hst.trans hd, VRel.of_free (R := R3) (R' := { box := R1.box, rows := R1.rows, im := R3.im }) (fun _ _ _ e => e) hr3 hfree⟩
                · cases h
          · cases h
      · cases e1 : snapsW (snap lo 6) σ args with
        | none => simp [e1] at h
        | some q =>
          obtain ⟨args', σ1⟩ := q
          simp only [e1] at h
          obtain ⟨R1, hst, hr⟩ := snapsW_ok (snap_ok 6).1 e1 I hv
          have I1 := hst.inv
          refine (hcall f args' _ _ r σ' h R1 w w.heap.size vs I1.shut (Nat.le_refl _) (Nat.le_refl _) (hg.mono hst.le) hr).mono ?_
          rintro e w' ⟨v, R2, h1, h2, h3⟩
          exact ⟨v, R2, h1, hst.trans (Step.widen I1 hb (Nat.le_trans hlo hst.len) h2), h3⟩
      · rename_i shut _
        cases e1 : snapsW (snap lo 6) σ args with
        | none => simp [e1] at h
        | some q =>
          obtain ⟨args', σ1⟩ := q
          simp only [e1] at h
          cases e2 : call f args' lo σ1 with
          | none => simp [e2] at h
          | some q2 =>
            obtain ⟨r1, σ2⟩ := q2
            simp only [e2] at h
            cases e3 : shutA lo σ2 args' shut with
            | none => simp [e3] at h
            | some σ3 =>
              simp only [e3] at h
              obtain ⟨R1, hst, hr⟩ := snapsW_ok (snap_ok 6).1 e1 I hv
              refine (hcall f args' _ _ r1 σ2 e2 R1 w base vs hst.inv hb (Nat.le_trans hlo hst.len) (hg.mono hst.le) hr).mono ?_
              rintro e w' ⟨v, R2, h1, h2, h3⟩
              obtain ⟨R3, hst3⟩ := shut_ok e3 h2.inv (hr.mono h2.le)
              obtain ⟨R4, hst4, hr4, _⟩ := (snap_ok 6).1 h hst3.inv (h3.mono hst3.le)
              exact ⟨v, R4, h1, ((hst.trans h2).trans hst3).trans hst4, hr4⟩
      · cases e1 : snapsW (snap lo 6) σ args with
        | none => simp [e1] at h
        | some q =>
          obtain ⟨args', σ1⟩ := q
          simp only [e1] at h
          obtain ⟨R1, hst, hr⟩ := snapsW_ok (snap_ok 6).1 e1 I hv
          refine (lentA_ok hcall h hst.inv hb (hg.mono hst.le) hr).mono ?_
          rintro e w' ⟨v, R2, h1, h2, h3⟩
          exact ⟨v, R2, h1, hst.trans h2, h3⟩
      · rename_i shut _
        cases e1 : snapsW (snap lo 6) σ args with
        | none => simp [e1] at h
        | some q =>
          obtain ⟨args', σ1⟩ := q
          simp only [e1] at h
          split at h
          · rename_i b σ2 e2
            split at h
            · rename_i σ3 e3
              simp only [Option.some.injEq, Prod.mk.injEq] at h
              obtain ⟨rfl, rfl⟩ := h
              obtain ⟨R1, hst, hr⟩ := snapsW_ok (snap_ok 6).1 e1 I hv
              have I1 := hst.inv
              have hlo1 := Nat.le_trans hlo hst.len
              refine (hcall f args' _ _ _ σ2 e2 R1 w w.heap.size vs I1.shut (Nat.le_refl _) (Nat.le_refl _) (hg.mono hst.le) hr).mono ?_
              rintro e w' ⟨v, R2, h1, h2, h3⟩
              have hw := Step.widen I1 hb hlo1 h2
              obtain ⟨R3, hst3⟩ := shut_ok e3 hw.inv (.cons h3 .nil)
              have h4 := (hst.trans hw).trans hst3
              have hl3 : lo ≤ σ3.length := Nat.le_trans hlo h4.len
              have h5 := h4.trans (Step.pad h4.inv hl3)
              have h6 := h5.trans (Step.pad h5.inv (Nat.le_trans hlo h5.len))
              rw [List.append_assoc] at h6
              exact ⟨v, R3, h1, h6, h3.mono hst3.le⟩
            · cases h
          · cases h
end Go.Abs
namespace Go.Abs
open Go.RowKit (Below)
variable {P : Program} {R : Ren} {σ : Sto} {w : World} {lo base : Nat}
theorem getD_rel {fr : List AV} {ts : Array Value} (h : VRels R fr ts.toList) (t : Nat) : VRel R (fr.getD t undefA) (ts.getD t undef) := by
  have hl := h.length
  rw [List.getD_eq_getElem?_getD]
  cases e : fr[t]? with
  | none =>
    have : fr.length ≤ t := List.getElem?_eq_none_iff.1 e
    have h2 : ¬ t < ts.size := by simp at hl; omega
    simp [h2, undefA, undef]
    exact .tuple .nil
  | some a =>
    obtain ⟨u, hu, hr⟩ := h.get e
    have : ts[t]? = some u := by simpa using hu
    simp [this]
    exact hr
theorem ev_ok {cfg : Cfg} {fr : List AV} {a : Act} (h : VRels R fr a.tmps.toList) (hg : GlobOk cfg R) {x : Operand} {v : AV} (he : evA cfg fr x = some v) : VRel R v (a.eval x) := by
  cases x with
  | tmp t => simp [evA] at he; subst he; exact getD_rel h t
  | const c => simp [evA] at he; exact absC_rel he
  | global g =>
    simp only [evA, Option.map_eq_some_iff] at he
    obtain ⟨cs, hc, rfl⟩ := he
    have := VRel.ro (R := R) 0 (hg g cs hc).1
    exact this
  | func f => simp [evA] at he; subst he; exact .func _ .nil .nil
def EvOk (cfg : Cfg) (R : Ren) (fr : List AV) (a : Act) (xs : List Operand) : Prop := ∀ x ∈ xs, ∀ v, evA cfg fr x = some v → VRel R v (a.eval x)
theorem EvOk.of_frame {cfg : Cfg} {fr : List AV} {a : Act} (h : VRels R fr a.tmps.toList) (hg : GlobOk cfg R) (xs : List Operand) : EvOk cfg R fr a xs := fun _ _ _ he => ev_ok h hg he
theorem EvOk.sub {cfg : Cfg} {fr : List AV} {a : Act} {xs ys : List Operand} (h : EvOk cfg R fr a xs) (k : ∀ x ∈ ys, x ∈ xs) : EvOk cfg R fr a ys := fun x hx v hv => h x (k x hx) v hv
theorem evs_ok {cfg : Cfg} {fr : List AV} {a : Act} : ∀ {xs : List Operand} {vs : List AV}, EvOk cfg R fr a xs → evsA cfg fr xs = some vs → VRels R vs (xs.map a.eval)
  | [], vs, _, he => by simp [evsA] at he; subst he; exact .nil
  | x :: xs, vs, h, he => by
    simp only [evsA] at he
    cases e1 : evA cfg fr x with
    | none => simp [e1] at he
    | some v => cases e2 : evsA cfg fr xs with
      | none => simp [e1, e2] at he
      | some us => simp [e1, e2] at he; subst he; exact .cons (h x (by simp) v e1) (evs_ok (h.sub (by simp +contextual)) e2)
theorem opt_ok {cfg : Cfg} {fr : List AV} {a : Act} {x : Option Operand} (h : EvOk cfg R fr a x.toList) {v : Option AV} (he : optA cfg fr x = some v) : ORel R v (x.map a.eval) := by
  cases x with
  | none => simp [optA] at he; subst he; exact .none
  | some x =>
    simp only [optA, Option.map_eq_some_iff] at he
    obtain ⟨u, hu, rfl⟩ := he
    exact .some (h x (by simp) u hu)
theorem parts_rel : ∀ {is : List Nat} {vs : List AV} {us : List Value}, is.length = vs.length → VRels R vs us → PRel R (is.zip vs) (is.zip us)
  | [], [], _, _, .nil => .nil
  | i :: is, v :: vs, _, hl, .cons h t => .cons h (parts_rel (by simpa using hl) t)
theorem parts_ok {cfg : Cfg} {fr : List AV} {a : Act} {ps : List (Nat × Operand)} (h : EvOk cfg R fr a (ps.map (·.2))) {vs : List (Nat × AV)} (he : partsA cfg fr ps = some vs) : PRel R vs (ps.map fun p => (p.1, a.eval p.2)) := by
  simp only [partsA, Option.map_eq_some_iff] at he
  obtain ⟨us, hu, rfl⟩ := he
  have hr := evs_ok h hu
  have hl : (ps.map (·.1)).length = us.length := by have := hr.length; simp at this ⊢; omega
  have := parts_rel hl hr
  have e : (ps.map (·.1)).zip ((ps.map (·.2)).map a.eval) = ps.map fun p => (p.1, a.eval p.2) := by
    clear this hl hr hu h
    induction ps with
    | nil => rfl
    | cons p ps ih => simp only [List.map_cons, List.zip_cons_cons, ih]
  rwa [e] at this
def Goes (P : Program) (R : Ren) (σ : Sto) (w : World) (lo base : Nat) (r : AV) (σ' : Sto) (o : Oper) (a : Act) : Prop :=
  ∀ (next : Act → World → Prop) (Q : Exit → Act → World → Prop), (∀ v w' R', Step R σ w lo base R' σ' w' → VRel R' r v → next (a.put o.dst v) w') → o.wp P a w next Q
theorem goes_of_run {o : Oper} {a : Act} {r : AV} {σ' : Sto} {R' : Ren} {v : Value} {w' : World} (h : (execOp a.eval o).run P w = .ok (.value v) w') (hs : Step R σ w lo base R' σ' w') (hr : VRel R' r v) : Goes P R σ w lo base r σ' o a := by
  intro next Q k
  unfold Oper.wp
  rw [h]
  exact k v w' R' hs hr
theorem run_val {s : Sem Value} {v : Value} {w' : World} (h : s.run P w = .ok v w') : (do pure (Next.value (← s)) : Sem Next).run P w = .ok (.value v) w' := by
  simp only [Sem.run_bind, h, Result.andThen_ok, Sem.run_pure]
theorem run_program (w : World) : (program).run P w = .ok P w := rfl
def BodyOk (P : Program) (call : Caller) : Prop := ∀ f args lo σ x, call f args lo σ = some x → ∃ fn, P.funcs[f]? = some fn ∧ fn.name ≠ "runtime.NumGoroutine" ∧ fn.body.isSome = true
theorem lent_body {sl : Nat → Nat × Nat} {call : Caller} {f lo : Nat} {σ : Sto} {args : List AV} {x : AV × Sto} (h : lentA sl call f lo σ args = some x) : ∃ args0 lo0 σ0 y, call f args0 lo0 σ0 = some y := by
  have go : ∀ {b y1 y2 : Nat} {args0 : List AV}, lentGo call f lo σ b y1 y2 args0 = some x → ∃ args0 lo0 σ0 y, call f args0 lo0 σ0 = some y := fun {b y1 y2 args0} h => by
    unfold lentGo at h
    split at h
    · split at h
      · split at h
        · split at h
          · rename_i e; exact ⟨_, _, _, _, e⟩
          · cases h
        · cases h
      · cases h
    · cases h
  unfold lentA at h
  split at h
  · split at h
    · exact go h
    · cases h
  · split at h
    · exact go h
    · cases h
  · cases h
theorem enter_body {cfg : Cfg} {call : Caller} (hcfg : CfgOk P cfg) (hbody : BodyOk P call) {caller f : Nat} {args : List AV} {x : AV × Sto} (h : enterA P cfg call caller lo σ f args = some x) :
    ∃ fn, P.funcs[f]? = some fn ∧ fn.name ≠ "runtime.NumGoroutine" ∧ fn.body.isSome = true := by
  unfold enterA at h
  split at h
  · rename_i T hT; exact hcfg.bodies f (.inr (by simp [hT]))
  · split at h
    · rename_i e he; exact hcfg.bodies f (.inl (by simp [he]))
    · split at h
      · exact hbody _ _ _ _ _ h
      · split at h
        · rename_i args' σ1 _
          unfold readW at h
          split at h
          · cases e2 : call f args' 0 [] with
            | none => simp [e2] at h
            | some q => exact hbody _ _ _ _ _ e2
          · cases h
        · cases h
      · split at h
        · exact hbody _ _ _ _ _ h
        · cases h
      · split at h
        · rename_i args' σ1 _
          cases e2 : call f args' lo σ1 with
          | none => simp [e2] at h
          | some q => exact hbody _ _ _ _ _ e2
        · cases h
      · split at h
        · obtain ⟨_, _, _, _, e⟩ := lent_body h
          exact hbody _ _ _ _ _ e
        · cases h
      · split at h
        · split at h
          · rename_i e2; exact hbody _ _ _ _ _ e2
          · cases h
        · cases h
theorem op_ok {cfg : Cfg} {call : Caller} (hcfg : CfgOk P cfg) (hcall : CallOk P cfg call) (hbody : BodyOk P call) {caller : Nat} {fr : List AV} {o : Oper} {r : AV} {σ' : Sto} {a : Act} (h : opA P cfg call caller lo fr σ o.op = some (r, σ'))
    (I : Inv R σ w lo base) (hb : base ≤ w.heap.size) (hlo : lo ≤ σ.length) (hg : GlobOk cfg R) (hf : EvOk cfg R fr a o.op.operands.toList) : Goes P R σ w lo base r σ' o a := by
  obtain ⟨dst, op, type, pos, after, guard⟩ := o
  simp only at hf
  cases op
  case move x =>
    simp only [opA, opPick, opAlloc, opBox, opBuild, opBuildSlice, op1, op2, opStore, opMkIface, opMakeFunc, opMakeSlice, opSlice, opExtract, sameA, Option.map_eq_some_iff] at h
    obtain ⟨v, hv, e⟩ := h; cases e
    exact goes_of_run rfl (.refl I) (hf _ (by simp [Op.operands]) _ hv)
  case assign x =>
    simp only [opA, opPick, opAlloc, opBox, opBuild, opBuildSlice, op1, op2, opStore, opMkIface, opMakeFunc, opMakeSlice, opSlice, opExtract, sameA, Option.map_eq_some_iff] at h
    obtain ⟨v, hv, e⟩ := h; cases e
    exact goes_of_run rfl (.refl I) (hf _ (by simp [Op.operands]) _ hv)
  case pick c x y =>
    simp only [opA, opPick, opAlloc, opBox, opBuild, opBuildSlice, op1, op2, opStore, opMkIface, opMakeFunc, opMakeSlice, opSlice, opExtract, sameA] at h
    split at h
    · rename_i t u v hc hx hy
      cases h
      have hcr := hf _ (by simp [Op.operands]) _ hc
      have hcv : a.eval c = .bool t := by generalize a.eval c = y at hcr; cases hcr; rfl
      refine goes_of_run (v := if t then a.eval x else a.eval y) ?_ (.refl I) ?_
      · simp only [execOp, hcv, Sem.run_bind, asBool, Sem.run_pure, Result.andThen_ok]
      · cases t
        · exact hf _ (by simp [Op.operands]) _ hy
        · exact hf _ (by simp [Op.operands]) _ hx
    · cases h
  case alloc t =>
    simp only [opA, opPick, opAlloc, opBox, opBuild, opBuildSlice, op1, op2, opStore, opMkIface, opMakeFunc, opMakeSlice, opSlice, opExtract, sameA] at h
    split at h
    · rename_i z hz
      cases h
      obtain ⟨zv, hzr, hzv⟩ := zeroA_run (R := R) hz
      obtain ⟨_, _, _, _, _, hno⟩ := zero_info hz
      obtain ⟨R', hst, hR⟩ := Step.allocBox I hb hlo t (hzv.cells hno)
      refine goes_of_run (v := .pointer (some ⟨w.heap.size, 0, none⟩)) ?_ hst (.ptr 0 hR)
      simp only [execOp, Instr.alloc, Sem.run_bind, hzr, Result.andThen_ok, newVar, newRow, run_newObj, Sem.run_pure]
      rfl
    · cases h
  case box t x =>
    simp only [opA, opPick, opAlloc, opBox, opBuild, opBuildSlice, op1, op2, opStore, opMkIface, opMakeFunc, opMakeSlice, opSlice, opExtract, sameA] at h
    split at h
    · rename_i v hx
      split at h
      · rename_i hc
        cases h
        obtain ⟨R', hst, hR⟩ := Step.allocBox I hb hlo t ((hf _ (by simp [Op.operands]) _ hx).cells' hc)
        refine goes_of_run (v := .pointer (some ⟨w.heap.size, 0, none⟩)) ?_ hst (.ptr 0 hR)
        simp only [execOp, Instr.box, Sem.run_bind, Result.andThen_ok, newVar, newRow, run_newObj, Sem.run_pure]
        rfl
      · cases h
    · cases h
  case build t ps =>
    simp only [opA, opPick, opAlloc, opBox, opBuild, opBuildSlice, op1, op2, opStore, opMkIface, opMakeFunc, opMakeSlice, opSlice, opExtract, sameA] at h
    split at h
    · rename_i parts hp
      simp only [Option.map_eq_some_iff] at h
      obtain ⟨v, hv, e⟩ := h; cases e
      obtain ⟨u, hu, hr⟩ := build_run (P := P) (w := w) (vs := ps.map fun p => (p.1, a.eval p.2)) hv (by simpa using parts_ok (a := a) (hf.sub (by simp [Op.operands])) hp)
      exact goes_of_run (run_val hu) (.refl I) hr
    · cases h
  case buildSlice t n ps =>
    simp only [opA, opPick, opAlloc, opBox, opBuild, opBuildSlice, op1, op2, opStore, opMkIface, opMakeFunc, opMakeSlice, opSlice, opExtract, sameA] at h
    split at h
    · rename_i parts hp
      split at h
      · simp only [Option.map_eq_some_iff] at h
        obtain ⟨v, hv, e⟩ := h; cases e
        obtain ⟨u, w', R', hu, hst, hr⟩ := buildSlice_run (P := P) (vs := ps.map fun p => (p.1, a.eval p.2)) I hb hv (by simpa using parts_ok (a := a) (hf.sub (by simp [Op.operands])) hp)
        exact goes_of_run (run_val hu) hst hr
      · cases h
    · cases h
  case load t x =>
    simp only [opA, opPick, opAlloc, opBox, opBuild, opBuildSlice, op1, op2, opStore, opMkIface, opMakeFunc, opMakeSlice, opSlice, opExtract, sameA] at h
    split at h
    · rename_i p hp
      simp only [Option.map_eq_some_iff] at h
      obtain ⟨v, hv, e⟩ := h; cases e
      obtain ⟨u, hu, hr⟩ := load_run (P := P) I hv (hf _ (by simp [Op.operands]) _ hp)
      exact goes_of_run (run_val hu) (.refl I) hr
    · cases h
  case store t x y =>
    simp only [opA, opPick, opAlloc, opBox, opBuild, opBuildSlice, op1, op2, opStore, opMkIface, opMakeFunc, opMakeSlice, opSlice, opExtract, sameA] at h
    split at h
    · rename_i p v hp hv
      simp only [Option.map_eq_some_iff] at h
      obtain ⟨σ1, hs, e⟩ := h; cases e
      obtain ⟨w', hu, hst⟩ := store_run (P := P) I hs (hf _ (by simp [Op.operands]) _ hp) (hf _ (by simp [Op.operands]) _ hv)
      intro next Q k
      unfold Oper.wp
      have hrun : (execOp a.eval ⟨dst, .store t x y, type, pos, after, guard⟩).run P w = .ok .skip w' := by
        simp only [execOp, Sem.run_bind, hu, Result.andThen_ok, Sem.run_pure]
      rw [hrun]
      exact k undef w' R hst (.tuple .nil)
    · cases h
  case nilCheck x =>
    simp only [opA, opPick, opAlloc, opBox, opBuild, opBuildSlice, op1, op2, opStore, opMkIface, opMakeFunc, opMakeSlice, opSlice, opExtract, sameA] at h
    split at h
    · rename_i p hp
      simp only [Option.map_eq_some_iff] at h
      obtain ⟨v, hv, e⟩ := h; cases e
      obtain ⟨hu, hr⟩ := nil_run (P := P) (w := w) hv (hf _ (by simp [Op.operands]) _ hp) ⟨dst, .nilCheck x, type, pos, after, guard⟩ a.eval x rfl rfl
      exact goes_of_run hu (.refl I) hr
    · cases h
  case binOp op t x y yT =>
    simp only [opA, opPick, opAlloc, opBox, opBuild, opBuildSlice, op1, op2, opStore, opMkIface, opMakeFunc, opMakeSlice, opSlice, opExtract, sameA] at h
    split at h
    · rename_i u v hx hy
      simp only [Option.map_eq_some_iff] at h
      obtain ⟨z, hz, e⟩ := h; cases e
      obtain ⟨zv, hu, hr⟩ := bin_run (P := P) (w := w) hz (hf _ (by simp [Op.operands]) _ hx) (hf _ (by simp [Op.operands]) _ hy)
      exact goes_of_run (run_val hu) (.refl I) hr
    · cases h
  case unOp op t x =>
    simp only [opA, opPick, opAlloc, opBox, opBuild, opBuildSlice, op1, op2, opStore, opMkIface, opMakeFunc, opMakeSlice, opSlice, opExtract, sameA] at h
    split at h
    · rename_i u hx
      simp only [Option.map_eq_some_iff] at h
      obtain ⟨z, hz, e⟩ := h; cases e
      obtain ⟨zv, hu, hr⟩ := un_run (P := P) (w := w) hz (hf _ (by simp [Op.operands]) _ hx)
      exact goes_of_run (run_val hu) (.refl I) hr
    · cases h
  case convert s d x =>
    simp only [opA, opPick, opAlloc, opBox, opBuild, opBuildSlice, op1, op2, opStore, opMkIface, opMakeFunc, opMakeSlice, opSlice, opExtract, sameA] at h
    split at h
    · rename_i u hx
      simp only [Option.map_eq_some_iff] at h
      obtain ⟨z, hz, e⟩ := h; cases e
      obtain ⟨zv, hu, hr⟩ := conv_run (P := P) (w := w) hz (hf _ (by simp [Op.operands]) _ hx)
      exact goes_of_run (run_val hu) (.refl I) hr
    · cases h
  case makeInterface t x =>
    simp only [opA, opPick, opAlloc, opBox, opBuild, opBuildSlice, op1, op2, opStore, opMkIface, opMakeFunc, opMakeSlice, opSlice, opExtract, sameA] at h
    split at h
    · rename_i u hx
      split at h
      · simp only [Option.map_eq_some_iff] at h
        obtain ⟨z, hz, e⟩ := h; cases e
        obtain ⟨zv, hu, hr⟩ := iface_run (P := P) (w := w) hz (hf _ (by simp [Op.operands]) _ hx)
        exact goes_of_run (run_val hu) (.refl I) hr
      · cases h
    · cases h
  case makeFunc fn first captured =>
    simp only [opA, opPick, opAlloc, opBox, opBuild, opBuildSlice, op1, op2, opStore, opMkIface, opMakeFunc, opMakeSlice, opSlice, opExtract, sameA] at h
    cases fn
    case func f =>
      simp only at h
      split at h
      · rename_i u v hx hy
        cases h
        have h1 := evs_ok (a := a) (hf.sub (by simp +contextual [Op.operands, Call.operands])) hx
        have h2 := evs_ok (a := a) (hf.sub (by simp +contextual [Op.operands, Call.operands])) hy
        refine goes_of_run (v := .func (.func f) (first.map a.eval) (captured.map a.eval)) rfl (.refl I) ?_
        have := VRel.func (R := R) (.func f) h1 h2
        rw [show first.map a.eval = (first.toList.map a.eval).toArray from Array.ext' (by rw [Array.toList_map]), show captured.map a.eval = (captured.toList.map a.eval).toArray from Array.ext' (by rw [Array.toList_map])]
        exact this
      · cases h
    all_goals (simp at h)
  case makeSlice t l c =>
    simp only [opA, opPick, opAlloc, opBox, opBuild, opBuildSlice, op1, op2, opStore, opMkIface, opMakeFunc, opMakeSlice, opSlice, opExtract, sameA] at h
    split at h
    · rename_i u v hx hy
      obtain ⟨z, w', R', hu, hst, hr⟩ := makeSlice_run (P := P) I hb hlo h (hf _ (by simp [Op.operands]) _ hx) (hf _ (by simp [Op.operands]) _ hy)
      exact goes_of_run (run_val hu) hst hr
    · cases h
  case slice t x l h' m =>
    simp only [opA, opPick, opAlloc, opBox, opBuild, opBuildSlice, op1, op2, opStore, opMkIface, opMakeFunc, opMakeSlice, opSlice, opExtract, sameA] at h
    split at h
    · rename_i u vl vh vm hx hl hh hm
      simp only [Option.map_eq_some_iff] at h
      obtain ⟨z, hz, e⟩ := h; cases e
      obtain ⟨zv, hu, hr⟩ := slice_run (P := P) I hz (hf _ (by simp [Op.operands]) _ hx) (opt_ok (hf.sub (by simp +contextual [Op.operands])) hl) (opt_ok (hf.sub (by simp +contextual [Op.operands])) hh) (opt_ok (hf.sub (by simp +contextual [Op.operands])) hm)
      exact goes_of_run (run_val hu) (.refl I) hr
    · cases h
  case fieldAddr s x f =>
    simp only [opA, opPick, opAlloc, opBox, opBuild, opBuildSlice, op1, op2, opStore, opMkIface, opMakeFunc, opMakeSlice, opSlice, opExtract, sameA] at h
    split at h
    · rename_i u hx
      simp only [Option.map_eq_some_iff] at h
      obtain ⟨z, hz, e⟩ := h; cases e
      obtain ⟨zv, hu, hr⟩ := fieldAddr_run (P := P) (w := w) hz (hf _ (by simp [Op.operands]) _ hx)
      exact goes_of_run (run_val hu) (.refl I) hr
    · cases h
  case field t x f =>
    simp only [opA, opPick, opAlloc, opBox, opBuild, opBuildSlice, op1, op2, opStore, opMkIface, opMakeFunc, opMakeSlice, opSlice, opExtract, sameA] at h
    split at h
    · rename_i u hx
      simp only [Option.map_eq_some_iff] at h
      obtain ⟨z, hz, e⟩ := h; cases e
      obtain ⟨zv, hu, hr⟩ := field_run (P := P) (w := w) hz (hf _ (by simp [Op.operands]) _ hx)
      exact goes_of_run (run_val hu) (.refl I) hr
    · cases h
  case indexAddr t x i =>
    simp only [opA, opPick, opAlloc, opBox, opBuild, opBuildSlice, op1, op2, opStore, opMkIface, opMakeFunc, opMakeSlice, opSlice, opExtract, sameA] at h
    split at h
    · rename_i u v hx hy
      simp only [Option.map_eq_some_iff] at h
      obtain ⟨z, hz, e⟩ := h; cases e
      obtain ⟨zv, hu, hr⟩ := indexAddr_run (P := P) I hz (hf _ (by simp [Op.operands]) _ hx) (hf _ (by simp [Op.operands]) _ hy)
      exact goes_of_run (run_val hu) (.refl I) hr
    · cases h
  case index t x i =>
    simp only [opA, opPick, opAlloc, opBox, opBuild, opBuildSlice, op1, op2, opStore, opMkIface, opMakeFunc, opMakeSlice, opSlice, opExtract, sameA] at h
    split at h
    · rename_i u v hx hy
      simp only [Option.map_eq_some_iff] at h
      obtain ⟨z, hz, e⟩ := h; cases e
      obtain ⟨zv, hu, hr⟩ := index_run (P := P) (w := w) hz (hf _ (by simp [Op.operands]) _ hx) (hf _ (by simp [Op.operands]) _ hy)
      exact goes_of_run (run_val hu) (.refl I) hr
    · cases h
  case typeAssert x xT t ok =>
    simp only [opA, opPick, opAlloc, opBox, opBuild, opBuildSlice, op1, op2, opStore, opMkIface, opMakeFunc, opMakeSlice, opSlice, opExtract, sameA] at h
    split at h
    · rename_i u hx
      simp only [Option.map_eq_some_iff] at h
      obtain ⟨z, hz, e⟩ := h; cases e
      obtain ⟨zv, hu, hr⟩ := assert_run (P := P) (w := w) (s := xT) hz (hf _ (by simp [Op.operands]) _ hx)
      exact goes_of_run (run_val hu) (.refl I) hr
    · cases h
  case extract x i =>
    simp only [opA, opPick, opAlloc, opBox, opBuild, opBuildSlice, op1, op2, opStore, opMkIface, opMakeFunc, opMakeSlice, opSlice, opExtract, sameA] at h
    split at h
    · rename_i vs hx
      simp only [Option.map_eq_some_iff] at h
      obtain ⟨z, hz, e⟩ := h; cases e
      have hr := hf _ (by simp [Op.operands]) _ hx
      generalize he : a.eval x = u at hr
      cases hr with
      | tuple hvs =>
        obtain ⟨zv, hu, hr⟩ := hvs.get hz
        refine goes_of_run (v := zv) ?_ (.refl I) hr
        simp only [execOp, he]
        refine run_val ?_
        simp only [Instr.extract]
        simp [hu]
    · cases h
  case call c =>
    simp only [opA, opPick, opAlloc, opBox, opBuild, opBuildSlice, op1, op2, opStore, opMkIface, opMakeFunc, opMakeSlice, opSlice, opExtract, sameA, callA] at h
    split at h
    · cases h
    · rename_i args hargs
      have hv := evs_ok (a := a) (hf.sub (by simp +contextual [Op.operands, Call.operands])) hargs
      split at h
      · rename_i b hcal
        have hrun : ∀ (u : Value) (w' : World), (builtin b c.argTypes type (c.args.map fun | .const _ => true | _ => false) (c.args.map a.eval)).run P w = .ok (.value u) w' →
            (execOp a.eval ⟨dst, .call c, type, pos, after, guard⟩).run P w = .ok (.value u) w' := by
          intro u w' hu
          simp only [execOp, resolve, hcal, Sem.run_bind, Sem.run_pure, Result.andThen_ok, invoke]
          exact hu
        have hcargs : c.args.map a.eval = (c.args.toList.map a.eval).toArray := Array.ext' (by rw [Array.toList_map])
        split at h
        · rename_i s x
          generalize hl : c.args.toList.map a.eval = ls at hv
          cases hv with
          | cons h1 h2 => cases h2 with
            | cons h2 h3 => cases h3 with
              | nil =>
                obtain ⟨u, w', R', hu, hst, hr⟩ := append_run (P := P) (type := type) I hb hlo h h1 h2
                refine goes_of_run (hrun u w' ?_) hst hr
                rw [hcargs, hl]
                exact run_val hu
        · rename_i d x
          generalize hl : c.args.toList.map a.eval = ls at hv
          cases hv with
          | cons h1 h2 => cases h2 with
            | cons h2 h3 => cases h3 with
              | nil =>
                obtain ⟨u, w', hu, hst, hr⟩ := copy_run (P := P) (type := type) I h h1 h2
                refine goes_of_run (hrun u w' ?_) hst hr
                rw [hcargs, hl]
                exact run_val hu
        · rename_i d
          generalize hl : c.args.toList.map a.eval = ls at hv
          cases hv with
          | cons h1 h2 => cases h2 with
            | nil =>
                obtain ⟨u, w', hu, hst, hr⟩ := clear_run (P := P) (type := type) I h h1
                refine goes_of_run (hrun u w' ?_) hst hr
                rw [hcargs, hl]
                exact run_val hu
        · rename_i x
          simp only [Option.map_eq_some_iff] at h
          obtain ⟨z, hz, e⟩ := h; cases e
          generalize hl : c.args.toList.map a.eval = ls at hv
          cases hv with
          | cons h1 h2 => cases h2 with
            | nil =>
                obtain ⟨u, hu, hr⟩ := len_run (P := P) (w := w) (type := type) hz h1
                refine goes_of_run (hrun u w ?_) (.refl I) hr
                rw [hcargs, hl]
                exact run_val hu
        · simp only [Option.map_eq_some_iff] at h
          obtain ⟨z, hz, e⟩ := h; cases e
          obtain ⟨u, hu, hr⟩ := mm_run (P := P) (w := w) (mx := true) (argTypes := c.argTypes) (type := type) hz hv
          refine goes_of_run (hrun u w ?_) (.refl I) hr
          rw [hcargs]
          exact run_val hu
        · simp only [Option.map_eq_some_iff] at h
          obtain ⟨z, hz, e⟩ := h; cases e
          obtain ⟨u, hu, hr⟩ := mm_run (P := P) (w := w) (mx := false) (argTypes := c.argTypes) (type := type) hz hv
          refine goes_of_run (hrun u w ?_) (.refl I) hr
          rw [hcargs]
          exact run_val hu
        · cases h
      · rename_i x hcal
        split at h
        · rename_i g first captured hx
          have hfr := hf _ (by simp [Op.operands, Call.operands, hcal]) _ hx
          generalize hex : a.eval x = xv at hfr
          cases hfr with
          | func _ h1 h2 =>
            rename_i us vs
            have hcalls := enter_ok hcfg hcall h I hb hlo hg ((h1.append hv).append h2)
            intro next Q k
            unfold Oper.wp
            have hfn : ∃ fn, P.funcs[g]? = some fn ∧ (fn.name == "runtime.NumGoroutine") = false ∧ fn.body.isNone = false := by
              obtain ⟨fn, h1, h2, h3⟩ := enter_body hcfg hbody h
              refine ⟨fn, h1, by simpa using h2, ?_⟩
              cases hb : fn.body with
              | none => rw [hb] at h3; cases h3
              | some _ => rfl
            obtain ⟨fn, hfn1, hfn2, hfn3⟩ := hfn
            have hrun : (execOp a.eval ⟨dst, .call c, type, pos, after, guard⟩).run P w = .ok (.enter g (us.toArray ++ c.args.map a.eval ++ vs.toArray)) w := by
              simp only [execOp, resolve, hcal, hex, Deferred.ofValue, Sem.run_bind, Sem.run_pure, Result.andThen_ok, invoke, callFunc, run_program, hfn1, hfn2, hfn3, Bool.false_eq_true, if_false]
            rw [hrun]
            simp only [Oper.upon]
            have e : us.toArray ++ c.args.map a.eval ++ vs.toArray = (us ++ c.args.toList.map a.eval ++ vs).toArray := by apply Array.ext'; simp
            rw [e]
            refine hcalls.mono ?_
            rintro e w' ⟨v, R', rfl, hst, hr⟩
            exact k v w' R' hst hr
        · cases h
      · cases h
  all_goals (simp only [opA, opPick, opAlloc, opBox, opBuild, opBuildSlice, op1, op2, opStore, opMkIface, opMakeFunc, opMakeSlice, opSlice, opExtract, sameA] at h; cases h)
theorem put_rel {fr : List AV} {a : Act} {dst : Option Tmp} {r : AV} {v : Value} (h : VRels R fr a.tmps.toList) (hr : VRel R r v) : VRels R (putA fr dst r) (a.put dst v).tmps.toList := by
  cases dst with
  | none => exact h
  | some d => simp only [putA, Act.put, Array.toList_setIfInBounds]; exact h.set d hr
theorem put_defers (a : Act) (dst : Option Tmp) (v : Value) : (a.put dst v).defers = a.defers := by cases dst <;> rfl
theorem wanted_rel {fr : List AV} {a : Act} {ops : Array Oper} {o : Oper} (hl : fr.length = a.tmps.size) (h : ∀ j want d, o.guard = some (j, want) → (ops[j]?).bind (·.dst) = some d → ∀ x, fr[d]? = some x → ∃ v, a.tmps[d]? = some v ∧ ∃ R, VRel R x v) {b : Bool} (hw : wantedA ops fr o = some b) :
    Region.wanted o (yielded ops a.tmps) = b := by
  unfold wantedA at hw
  unfold Region.wanted
  cases hg : o.guard with
  | none => simp only [hg] at hw; cases hw; rfl
  | some p =>
    obtain ⟨j, want⟩ := p
    simp only [hg] at hw ⊢
    unfold yielded
    cases hd : (ops[j]?).bind (·.dst) with
    | none => simp [hd] at hw; subst hw; simp
    | some d =>
      cases hf : fr[d]? with
      | none =>
        have h1 : fr.length ≤ d := List.getElem?_eq_none_iff.1 hf
        have h2 : a.tmps[d]? = none := Array.getElem?_eq_none (by omega)
        simp [hd, hf] at hw
        subst hw
        simp [h2]
      | some x =>
        obtain ⟨v, hv, R, hr⟩ := h j want d hg hd x hf
        simp only [hd, Option.bind_some, hf] at hw
        simp only [Option.bind_some, hv]
        cases hr <;> simp at hw <;> (subst hw; simp)
theorem getElem_rel {fr : List AV} {ts : Array Value} (h : VRels R fr ts.toList) {d : Nat} {x : AV} (hx : fr[d]? = some x) : ∃ v, ts[d]? = some v ∧ VRel R x v := by
  obtain ⟨u, hu, hr⟩ := h.get hx
  exact ⟨u, by simpa using hu, hr⟩
theorem ops_ok {cfg : Cfg} {call : Caller} (hcfg : CfgOk P cfg) (hcall : CallOk P cfg call) (hbody : BodyOk P call) {caller : Nat} {ops : Array Oper} (hb : True) :
    ∀ {l : List Oper} {fr fr' : List AV} {σ σ' : Sto} {R : Ren} {w : World} {a : Act} {Q : Exit → Act → World → Prop}, opsA P cfg call caller lo ops l fr σ = some (fr', σ') →
      Inv R σ w lo base → base ≤ w.heap.size → lo ≤ σ.length → GlobOk cfg R → VRels R fr a.tmps.toList → a.defers = [] →
      (∀ a' w' R', Step R σ w lo base R' σ' w' → VRels R' fr' a'.tmps.toList → a'.defers = [] → a'.tmps.size = a.tmps.size → Q .normal a' w') → wpList P ops Q l a w
  | [], fr, fr', σ, σ', R, w, a, Q, h, I, hb, hlo, hg, hf, hd, k => by
    simp [opsA] at h; obtain ⟨rfl, rfl⟩ := h
    exact k a w R (.refl I) hf hd rfl
  | o :: rest, fr, fr', σ, σ', R, w, a, Q, h, I, hb, hlo, hg, hf, hd, k => by
    simp only [opsA] at h
    have hsz : fr.length = a.tmps.size := by have := hf.length; simpa using this
    have hwr : ∀ {b}, wantedA ops fr o = some b → Region.wanted o (yielded ops a.tmps) = b := fun hw => wanted_rel hsz (fun j want d _ _ x hx => by
      obtain ⟨v, hv, hr⟩ := getElem_rel hf hx
      exact ⟨v, hv, R, hr⟩) hw
    unfold wpList
    split at h
    · rename_i hw
      rw [if_pos (hwr hw)]
      cases e : opA P cfg call caller lo fr σ o.op with
      | none => simp [e] at h
      | some q =>
        obtain ⟨r, σ1⟩ := q
        simp only [e] at h
        refine .inl (op_ok hcfg hcall hbody e I hb hlo hg (EvOk.of_frame hf hg _) _ _ ?_)
        intro v w1 R1 hst hr
        refine ops_ok hcfg hcall hbody trivial h hst.inv (Nat.le_trans hb hst.below.size) (Nat.le_trans hlo hst.len) (hg.mono hst.le) (put_rel (hf.mono hst.le) hr) (by rw [put_defers]; exact hd) ?_
        intro a' w' R' hst' hf' hd' hs'
        exact k a' w' R' (hst.trans hst') hf' hd' (by rw [hs']; cases o.dst <;> simp [Act.put])
    · rename_i hw
      rw [if_neg (by rw [hwr hw]; simp)]
      refine ops_ok hcfg hcall hbody trivial h I hb hlo hg (put_rel hf (.tuple .nil)) (by rw [put_defers]; exact hd) ?_
      intro a' w' R' hst' hf' hd' hs'
      exact k a' w' R' hst' hf' hd' (by rw [hs']; cases o.dst <;> simp [Act.put])
    · cases h
end Go.Abs
namespace Go.Abs
open Go.RowKit (Below)
variable {P : Program}
theorem load_same {cfg : Cfg} {fr : List AV} {σ σ' : Sto} {t : TypeId} {a : Operand} {p r : AV} (hp : evA cfg fr a = some p) (h : loadA P σ t p = some r) (hs : ∀ b, blkP (evA cfg fr a) = some b → σ'[b]? = σ[b]?) : loadA P σ' t p = some r := by
  rw [hp] at hs
  unfold loadA at h ⊢
  have : placeA σ' p = placeA σ p := by
    cases p <;> simp only [placeA, blkP] at hs ⊢
    · rw [hs _ rfl]
    · rw [hs _ rfl]
  rw [this]; exact h
theorem indexAddr_same {cfg : Cfg} {fr : List AV} {σ σ' : Sto} {t : TypeId} {a : Operand} {x i r : AV} (hx : evA cfg fr a = some x) (h : indexAddrA P σ t x i = some r) (hs : ∀ b, blkS (evA cfg fr a) = some b → σ'[b]? = σ[b]?) : indexAddrA P σ' t x i = some r := by
  rw [hx] at hs
  rw [← h]
  cases x
  case sl b g off len => simp only [blkS] at hs; simp only [indexAddrA, hs _ rfl]
  all_goals rfl
theorem slice_same {cfg : Cfg} {fr : List AV} {σ σ' : Sto} {t : TypeId} {a : Operand} {x r : AV} {l h' m : Option AV} (hx : evA cfg fr a = some x) (h : sliceA P σ t x l h' m = some r) (hs : ∀ b, blkS (evA cfg fr a) = some b → σ'[b]? = σ[b]?) : sliceA P σ' t x l h' m = some r := by
  rw [hx] at hs
  rw [← h]
  cases x
  case sl b g off len =>
    have e : σ'[b]? = σ[b]? := hs b rfl
    cases hd : P.underlying t with
    | none => simp only [sliceA, hd]
    | some d => cases d <;> simp only [sliceA, hd, e]
  all_goals (
    cases hd : P.underlying t with
    | none => simp only [sliceA, hd]
    | some d => cases d <;> simp only [sliceA, hd])
theorem look_same {cfg : Cfg} {call : Caller} {caller lo : Nat} {fr : List AV} {σ σ1 σ' : Sto} {op : Op} {r : AV} (h0 : classA cfg caller op = 0) (h : opA P cfg call caller lo fr σ op = some (r, σ1))
    (hs : ∀ b, lookA cfg fr op = some b → σ'[b]? = σ[b]?) : σ1 = σ ∧ ∀ lo', opA P cfg call caller lo' fr σ' op = some (r, σ') := by
  cases op
  case load t a =>
    simp only [opA, opPick, opAlloc, opBox, opBuild, opBuildSlice, op1, op2, opStore, opMkIface, opMakeFunc, opMakeSlice, opSlice, opExtract, sameA] at h ⊢
    cases hp : evA cfg fr a with
    | none => simp [hp] at h
    | some p =>
      simp only [hp, Option.map_eq_some_iff] at h
      obtain ⟨v, hv, e⟩ := h; cases e
      exact ⟨rfl, fun _ => by simp only [load_same hp hv hs, Option.map_some]⟩
  case indexAddr t x i =>
    simp only [opA, opPick, opAlloc, opBox, opBuild, opBuildSlice, op1, op2, opStore, opMkIface, opMakeFunc, opMakeSlice, opSlice, opExtract, sameA] at h ⊢
    cases hx : evA cfg fr x with
    | none => simp [hx] at h
    | some p => cases hi : evA cfg fr i with
      | none => simp [hx, hi] at h
      | some ix =>
        simp only [hx, hi, Option.map_eq_some_iff] at h
        obtain ⟨v, hv, e⟩ := h; cases e
        exact ⟨rfl, fun _ => by simp only [indexAddr_same hx hv hs, Option.map_some]⟩
  case slice t x l hh m =>
    simp only [opA, opPick, opAlloc, opBox, opBuild, opBuildSlice, op1, op2, opStore, opMkIface, opMakeFunc, opMakeSlice, opSlice, opExtract, sameA] at h ⊢
    split at h
    · rename_i v l' h' m' hx hl hh hm
      simp only [Option.map_eq_some_iff] at h
      obtain ⟨v, hv, e⟩ := h; cases e
      exact ⟨rfl, fun _ => by simp only [hx, hl, hh, hm, slice_same hx hv hs, Option.map_some]⟩
    · cases h
  case call c =>
    simp only [classA] at h0
    simp only [opA, opPick, opAlloc, opBox, opBuild, opBuildSlice, op1, op2, opStore, opMkIface, opMakeFunc, opMakeSlice, opSlice, opExtract, sameA, callA] at h ⊢
    cases ha : evsA cfg fr c.args.toList with
    | none => simp [ha] at h
    | some args =>
      simp only [ha] at h ⊢
      cases hb : c.callee with
      | builtin b =>
        simp only [hb] at h0 h ⊢
        cases b <;> simp at h0
        all_goals (
          split at h <;> first | cases h | skip)
        all_goals simp_all
        all_goals (
          obtain ⟨v, hv, e1, e2⟩ := h
          exact ⟨e2.symm, e1 ▸ hv⟩)
      | value x =>
        rw [hb] at h0
        cases x with
        | func f =>
          simp only at h0
          split at h0
          · cases h0
          · split at h0 <;> cases h0
        | _ => cases h0
      | invoke r m => simp [hb] at h
  case makeFunc fn a b =>
    cases fn with
    | func f =>
      simp only [opA, opPick, opAlloc, opBox, opBuild, opBuildSlice, op1, op2, opStore, opMkIface, opMakeFunc, opMakeSlice, opSlice, opExtract, sameA] at h ⊢
      split at h
      · cases h; exact ⟨rfl, fun _ => rfl⟩
      · cases h
    | _ => cases h
  all_goals first
    | (simp only [classA] at h0; cases h0; done)
    | (simp only [opA, opPick, opAlloc, opBox, opBuild, opBuildSlice, op1, op2, opStore, opMkIface, opMakeFunc, opMakeSlice, opSlice, opExtract, sameA] at h ⊢; split at h <;> first | (cases h; done) | skip)
    | (simp only [opA, opPick, opAlloc, opBox, opBuild, opBuildSlice, op1, op2, opStore, opMkIface, opMakeFunc, opMakeSlice, opSlice, opExtract, sameA] at h ⊢)
  all_goals first
    | (simp only [Option.map_eq_some_iff, Prod.mk.injEq] at h ⊢; obtain ⟨v, hv, e1, e2⟩ := h; exact ⟨e2.symm, fun _ => ⟨v, hv, e1, trivial⟩⟩)
    | (cases h; exact ⟨rfl, fun _ => rfl⟩)
    | (split at h <;> first
        | (cases h; done)
        | (cases h; exact ⟨rfl, fun _ => rfl⟩)
        | (rename_i hc; simp only [hc, if_true, Option.map_eq_some_iff, Prod.mk.injEq] at h ⊢; obtain ⟨v, hv, e1, e2⟩ := h; exact ⟨e2.symm, fun _ => ⟨v, hv, e1, trivial⟩⟩)
        | skip)
end Go.Abs
namespace Go.Abs
def Keeps (lo : Nat) (σ σ' : Sto) : Prop := σ.length ≤ σ'.length ∧ ∀ b, b < lo → σ'[b]? = σ[b]?
theorem Keeps.refl (lo : Nat) (σ : Sto) : Keeps lo σ σ := ⟨Nat.le_refl _, fun _ _ => rfl⟩
theorem Keeps.trans {lo : Nat} {a b c : Sto} (h : Keeps lo a b) (k : Keeps lo b c) : Keeps lo a c := ⟨Nat.le_trans h.1 k.1, fun i hi => (k.2 i hi).trans (h.2 i hi)⟩
theorem Keeps.mono {lo lo' : Nat} {a b : Sto} (h : Keeps lo a b) (l : lo' ≤ lo) : Keeps lo' a b := ⟨h.1, fun i hi => h.2 i (by omega)⟩
theorem Keeps.app {lo : Nat} {σ : Sto} (h : lo ≤ σ.length) (l : Sto) : Keeps lo σ (σ ++ l) := ⟨by simp, fun b hb => List.getElem?_append_left (by omega)⟩
theorem Keeps.set {lo : Nat} {σ : Sto} {b : Nat} (h : lo ≤ b) (x : Blk) : Keeps lo σ (σ.set b x) := ⟨by simp, fun c hc => List.getElem?_set_ne (by omega)⟩
theorem set_same {σ : Sto} {b : Nat} {x : Blk} (h : σ[b]? = some x) : σ.set b x = σ := by
  apply List.ext_getElem?; intro j
  by_cases e : j = b
  · subst e; rw [List.getElem?_set_self (List.getElem?_eq_some_iff.1 h).1, h]
  · rw [List.getElem?_set_ne (by omega)]
theorem snapsW_keeps {lo : Nat} {f : Sto → AV → Option (AV × Sto)} (hf : ∀ σ v v' σ', f σ v = some (v', σ') → Keeps lo σ σ') : ∀ {vs vs' : List AV} {σ σ' : Sto}, snapsW f σ vs = some (vs', σ') → Keeps lo σ σ'
  | [], _, σ, σ', h => by simp [snapsW] at h; obtain ⟨_, rfl⟩ := h; exact .refl _ _
  | v :: vs, vs', σ, σ', h => by
    simp only [snapsW] at h
    cases e1 : f σ v with
    | none => simp [e1] at h
    | some p =>
      obtain ⟨v1, σ1⟩ := p
      simp only [e1] at h
      cases e2 : snapsW f σ1 vs with
      | none => simp [e2] at h
      | some q =>
        obtain ⟨vs1, σ2⟩ := q
        simp only [e2] at h
        cases h
        exact (hf _ _ _ _ e1).trans (snapsW_keeps hf e2)
theorem keeps_freeze {lo : Nat} {σ : Sto} {b : Nat} {x y : Blk} (hx : σ[b]? = some x) (h : y = x ∨ lo ≤ b) : Keeps lo σ (σ.set b y) := by
  rcases h with rfl | h
  · rw [set_same hx]; exact .refl _ _
  · exact .set h _
theorem snap_keeps {lo : Nat} : ∀ (d : Nat) (σ : Sto) (v v' : AV) (σ' : Sto), snap lo d σ v = some (v', σ') → Keeps lo σ σ'
  | 0, _, _, _, _, h => by simp [snap] at h
  | d + 1, σ, v, v', σ', h => by
    have hw : ∀ {vs vs' : List AV} {σ σ' : Sto}, snapsW (snap lo d) σ vs = some (vs', σ') → Keeps lo σ σ' := fun h => snapsW_keeps (snap_keeps d) h
    cases v <;> simp only [snap] at h
    case sl b g off len =>
      split at h
      · rename_i es g' sz fz hσ
        split at h
        · rename_i hc
          cases e : snapsW (snap lo d) (σ.set b (.rows es g' sz true)) ((es.drop off).take len) with
          | none => simp [e] at h
          | some q =>
            simp only [e] at h; cases h
            exact (keeps_freeze hσ (hc.2.2.imp (fun e => by rw [e]) id)).trans (hw e)
        · cases h
      · cases h
    case bsl b off len =>
      split at h
      · rename_i cs fz hσ
        split at h
        · rename_i hc
          cases e : snapsW (snap lo d) (σ.set b (.box cs true)) ((cs.drop off).take len) with
          | none => simp [e] at h
          | some q =>
            simp only [e] at h; cases h
            exact (keeps_freeze hσ (hc.2.1.imp (fun e => by rw [e]) id)).trans (hw e)
        · cases h
      · cases h
    case agg cs =>
      cases e : snapsW (snap lo d) σ cs with
      | none => simp [e] at h
      | some q => simp only [e] at h; cases h; exact hw e
    case tuple cs =>
      cases e : snapsW (snap lo d) σ cs with
      | none => simp [e] at h
      | some q => simp only [e] at h; cases h; exact hw e
    case iface t x =>
      cases e : snap lo d σ x with
      | none => simp [e] at h
      | some q => simp only [e] at h; cases h; exact snap_keeps d _ _ _ _ e
    all_goals (cases h; exact .refl _ _)
variable {P : Program}
theorem storeA_keeps {lo : Nat} {σ σ' : Sto} {t : TypeId} {p x : AV} (h : storeA P lo σ t p x = some σ') : Keeps lo σ σ' ∧ ∀ c, blkP (some p) ≠ some c → σ'[c]? = σ[c]? := by
  unfold storeA at h
  repeat' split at h
  all_goals first
    | (cases h; done)
    | (cases h; rename_i hc _ _ ; exact ⟨.set (by omega) _, fun c hn => List.getElem?_set_ne (fun e => hn (by simp [blkP, e]))⟩)
    | (cases h; rename_i hc ; exact ⟨.set (by omega) _, fun c hn => List.getElem?_set_ne (fun e => hn (by simp [blkP, e]))⟩)
    | (cases h; exact ⟨.set (by omega) _, fun c hn => List.getElem?_set_ne (fun e => hn (by simp [blkP, e]))⟩)
theorem makeSliceA_keeps {lo : Nat} {σ σ' : Sto} {t : TypeId} {l c r : AV} (hlo : lo ≤ σ.length) (h : makeSliceA P σ t l c = some (r, σ')) : Keeps lo σ σ' := by
  unfold makeSliceA at h
  repeat' split at h
  all_goals first
    | (cases h; done)
    | (cases h; exact .app hlo _)
    | (cases h; exact .refl _ _)
theorem appendA_keeps {lo : Nat} {σ σ' : Sto} {ts : Array TypeId} {s x r : AV} (hlo : lo ≤ σ.length) (h : appendA P lo σ ts s x = some (r, σ')) : Keeps lo σ σ' := by
  unfold appendA at h
  repeat' split at h
  all_goals first
    | (cases h; done)
    | (cases h; exact .app hlo _)
    | (cases h; exact .refl _ _)
    | (cases h; exact .set (by omega) _)
theorem copyA_keeps {lo : Nat} {σ σ' : Sto} {ts : Array TypeId} {s x r : AV} (h : copyA P lo σ ts s x = some (r, σ')) : Keeps lo σ σ' := by
  unfold copyA at h
  repeat' split at h
  all_goals first
    | (cases h; done)
    | (cases h; exact .set (by omega) _)
theorem clearA_keeps {lo : Nat} {σ σ' : Sto} {ts : Array TypeId} {s r : AV} (h : clearA P lo σ ts s = some (r, σ')) : Keeps lo σ σ' := by
  unfold clearA at h
  repeat' split at h
  all_goals first
    | (cases h; done)
    | (cases h; exact .set (by omega) _)
theorem cloneA_keeps {lo : Nat} {σ σ' : Sto} {T : TypeId} {as : List AV} {r : AV} (hlo : lo ≤ σ.length) (h : cloneA P σ T as = some (r, σ')) : Keeps lo σ σ' := by
  unfold cloneA at h
  repeat' split at h
  all_goals first
    | (cases h; done)
    | (cases h; exact .app hlo _)
    | (cases h; exact .refl _ _)
theorem shutA_keeps {lo : Nat} {args : List AV} : ∀ {l : List (Nat × Nat × Nat)} {σ σ' : Sto}, shutA lo σ args l = some σ' → Keeps lo σ σ'
  | [], σ, σ', h => by simp [shutA] at h; subst h; exact .refl _ _
  | (i, off, n) :: rest, σ, σ', h => by
    simp only [shutA] at h
    split at h
    · split at h
      · split at h
        · rename_i hb
          split at h
          · rename_i cs' σ1 hs
            split at h
            · split at h
              · exact (snapsW_keeps (snap_keeps 6) hs).trans ((Keeps.set hb _).trans (shutA_keeps h))
              · cases h
            · cases h
          · cases h
        · cases h
      · cases h
    · exact shutA_keeps h
    · cases h
def CallKeeps (call : Caller) : Prop := ∀ f args lo σ r σ', lo ≤ σ.length → call f args lo σ = some (r, σ') → Keeps lo σ σ'
theorem lentA_keeps {sl : Nat → Nat × Nat} {call : Caller} {f lo : Nat} {σ σ' : Sto} {args : List AV} {r : AV} (h : lentA sl call f lo σ args = some (r, σ')) : Keeps lo σ σ' := by
  have go : ∀ {b y1 y2 : Nat} {args0 : List AV}, lentGo call f lo σ b y1 y2 args0 = some (r, σ') → Keeps lo σ σ' := fun {b y1 y2 args0} h => by
    unfold lentGo at h
    split at h
    · rename_i cs hσ
      split at h
      · rename_i hc
        obtain ⟨hlo, hl1, hl2, hy, hr1, hr2⟩ := hc
        split at h
        · split at h
          · split at h
            · split at h
              · split at h
                · split at h
                  · split at h
                    · split at h
                      · rename_i σ3 hput
                        simp only [Option.some.injEq, Prod.mk.injEq] at h
                        obtain ⟨rfl, rfl⟩ := h
                        have hn : [y1, y2].Nodup := by simp [hy]
                        have hbs : ∀ y ∈ [y1, y2], lo ≤ y ∧ RowFree σ y := fun y hm => by
                          simp only [List.mem_cons, List.not_mem_nil, or_false] at hm
                          rcases hm with rfl | rfl
                          · exact ⟨hl1, rowOk_free hr1⟩
                          · exact ⟨hl2, rowOk_free hr2⟩
                        obtain ⟨h1, h2, _⟩ := putRows_spec hput hn (fun y hy => by
                          obtain ⟨_, es, g, sz, e, _⟩ := hbs y hy
                          rw [List.length_set]; exact (List.getElem?_eq_some_iff.1 e).1)
                        rw [List.length_set] at h1
                        have hblt : b < σ.length := (List.getElem?_eq_some_iff.1 hσ).1
                        refine ⟨by simp only [List.length_append, h1]; omega, fun y hy => ?_⟩
                        rw [List.getElem?_append_left (by omega), h2 y (fun hm => by have := (hbs y hm).1; omega), List.getElem?_set_ne (by omega)]
                      · cases h
                    · cases h
                  · cases h
                · cases h
              · cases h
            · cases h
          · cases h
        · cases h
      · cases h
    · cases h
  unfold lentA at h
  split at h
  · split at h
    · exact go h
    · cases h
  · split at h
    · exact go h
    · cases h
  · cases h
theorem enterA_keeps {cfg : Cfg} {call : Caller} (hc : CallKeeps call) {caller lo f : Nat} {σ σ' : Sto} {args : List AV} {r : AV} (hlo : lo ≤ σ.length) (h : enterA P cfg call caller lo σ f args = some (r, σ')) : Keeps lo σ σ' := by
  have hs : ∀ {as : List AV} {σ σ' : Sto} {vs : List AV}, snapsW (snap lo 6) σ as = some (vs, σ') → Keeps lo σ σ' := fun h => snapsW_keeps (snap_keeps 6) h
  unfold enterA at h
  split at h
  · exact cloneA_keeps hlo h
  · split at h
    · split at h
      · rename_i e1
        split at h
        · split at h
          · split at h
            · cases h; exact hs e1
            · cases h
          · cases h
        · cases h
      · cases h
    · split at h
      · exact hc _ _ _ _ _ _ hlo h
      · split at h
        · rename_i e1
          unfold readW at h
          split at h
          · split at h
            · split at h
              · split at h
                · cases h; exact hs e1
                · cases h
              · cases h
            · cases h
          · cases h
        · cases h
      · split at h
        · rename_i e1
          have k := hs e1
          exact k.trans ((hc _ _ _ _ _ _ (Nat.le_refl _) h).mono (Nat.le_trans hlo k.1))
        · cases h
      · split at h
        · rename_i e1
          have k := hs e1
          split at h
          · rename_i e2
            have k2 := hc _ _ _ _ _ _ (Nat.le_trans hlo k.1) e2
            split at h
            · rename_i e3
              exact ((k.trans k2).trans (shutA_keeps e3)).trans (snap_keeps 6 _ _ _ _ h)
            · cases h
          · cases h
        · cases h
      · split at h
        · rename_i e1
          exact (hs e1).trans (lentA_keeps h)
        · cases h
      · split at h
        · rename_i e1
          have k := hs e1
          split at h
          · rename_i e2
            have k2 := (hc _ _ _ _ _ _ (Nat.le_refl _) e2).mono (Nat.le_trans hlo k.1)
            split at h
            · rename_i e3
              cases h
              have k3 := (k.trans k2).trans (shutA_keeps e3)
              refine k3.trans ?_
              exact .app (Nat.le_trans hlo k3.1) _
            · cases h
          · cases h
        · cases h
theorem callA_keeps {cfg : Cfg} {call : Caller} (hc : CallKeeps call) {caller lo : Nat} {σ σ' : Sto} {fr : List AV} {c : Call} {r : AV} (hlo : lo ≤ σ.length) (h : callA P cfg call caller lo fr σ c = some (r, σ')) : Keeps lo σ σ' := by
  unfold callA at h
  split at h
  · cases h
  · split at h
    · split at h
      · exact appendA_keeps hlo h
      · exact copyA_keeps h
      · exact clearA_keeps h
      all_goals first
        | (simp only [Option.map_eq_some_iff, Prod.mk.injEq] at h; obtain ⟨_, _, _, rfl⟩ := h; exact .refl _ _)
        | cases h
    · split at h
      · exact enterA_keeps hc hlo h
      · cases h
    · cases h
theorem opA_keeps {cfg : Cfg} {call : Caller} (hc : CallKeeps call) {caller lo : Nat} {σ σ' : Sto} {fr : List AV} {o : Op} {r : AV} (hlo : lo ≤ σ.length) (h : opA P cfg call caller lo fr σ o = some (r, σ')) : Keeps lo σ σ' := by
  cases o
  case call c => exact callA_keeps hc hlo (by simpa only [opA] using h)
  case makeFunc fn a b =>
    cases fn with
    | func f =>
      simp only [opA, opPick, opAlloc, opBox, opBuild, opBuildSlice, op1, op2, opStore, opMkIface, opMakeFunc, opMakeSlice, opSlice, opExtract, sameA] at h
      split at h
      · cases h; exact .refl _ _
      · cases h
    | _ => cases h
  case store t a x =>
    simp only [opA, opPick, opAlloc, opBox, opBuild, opBuildSlice, op1, op2, opStore, opMkIface, opMakeFunc, opMakeSlice, opSlice, opExtract, sameA] at h
    split at h
    · simp only [Option.map_eq_some_iff, Prod.mk.injEq] at h
      obtain ⟨_, h, _, rfl⟩ := h
      exact (storeA_keeps h).1
    · cases h
  all_goals first
    | (simp only [opA, opPick, opAlloc, opBox, opBuild, opBuildSlice, op1, op2, opStore, opMkIface, opMakeFunc, opMakeSlice, opSlice, opExtract, sameA] at h; cases h; done)
    | (simp only [opA, opPick, opAlloc, opBox, opBuild, opBuildSlice, op1, op2, opStore, opMkIface, opMakeFunc, opMakeSlice, opSlice, opExtract, sameA, Option.map_eq_some_iff, Prod.mk.injEq] at h; obtain ⟨_, _, _, rfl⟩ := h; exact .refl _ _)
    | skip
  all_goals (simp only [opA, opPick, opAlloc, opBox, opBuild, opBuildSlice, op1, op2, opStore, opMkIface, opMakeFunc, opMakeSlice, opSlice, opExtract, sameA] at h)
  all_goals (repeat' split at h)
  all_goals first
    | (cases h; done)
    | (cases h; exact .app hlo _)
    | (cases h; exact .refl _ _)
    | exact makeSliceA_keeps hlo h
    | (simp only [Option.map_eq_some_iff, Prod.mk.injEq] at h; obtain ⟨_, _, _, rfl⟩ := h; exact .refl _ _)
theorem opsA_keeps {cfg : Cfg} {call : Caller} (hc : CallKeeps call) {caller lo : Nat} {ops : Array Oper} : ∀ {l : List Oper} {fr fr' : List AV} {σ σ' : Sto}, lo ≤ σ.length → opsA P cfg call caller lo ops l fr σ = some (fr', σ') → Keeps lo σ σ'
  | [], _, _, σ, σ', _, h => by simp [opsA] at h; obtain ⟨_, rfl⟩ := h; exact .refl _ _
  | o :: rest, fr, fr', σ, σ', hlo, h => by
    simp only [opsA] at h
    split at h
    · split at h
      · rename_i e
        have k := opA_keeps hc hlo e
        exact k.trans (opsA_keeps hc (Nat.le_trans hlo k.1) h)
      · cases h
    · exact opsA_keeps hc hlo h
    · cases h
theorem drawA_keeps {cfg : Cfg} {call : Caller} (hc : CallKeeps call) {caller lo : Nat} {ops : Array Oper} : ∀ {l : List Oper} {tr tr' : List (Option Nat)} {fr fr' : List AV} {σ σ' : Sto}, lo ≤ σ.length → drawA P cfg call caller lo ops l tr fr σ = some (tr', fr', σ') → Keeps lo σ σ'
  | [], _, _, _, _, σ, σ', _, h => by simp [drawA] at h; obtain ⟨_, _, rfl⟩ := h; exact .refl _ _
  | o :: rest, tr, tr', fr, fr', σ, σ', hlo, h => by
    simp only [drawA] at h
    split at h
    · split at h
      · rename_i e
        rename_i σ1
        have k : Keeps lo σ σ1 := by
          by_cases c : classA cfg caller o.op = 2
          · rw [if_pos c] at e; exact opA_keeps hc hlo e
          · rw [if_neg c] at e; exact (opA_keeps hc (Nat.le_refl _) e).mono hlo
        exact k.trans (drawA_keeps hc (Nat.le_trans hlo k.1) h)
      · cases h
    · exact drawA_keeps hc hlo h
    · cases h
theorem regionA_keeps {cfg : Cfg} {call : Caller} (hc : CallKeeps call) {caller lo : Nat} {ops : Array Oper} {fr fr' : List AV} {σ σ' : Sto} (hlo : lo ≤ σ.length) (h : regionA P cfg call caller lo ops fr σ = some (fr', σ')) : Keeps lo σ σ' := by
  unfold regionA at h
  split at h
  · split at h
    · rename_i e
      split at h
      · cases h; exact drawA_keeps hc hlo e
      · cases h
    · cases h
  · cases h
theorem blankA_get {n0 : Nat} {L : List Nat} : ∀ {σ : Sto} {b i : Nat}, (blankA n0 L b σ)[i]? = (σ[i]?).map fun x => if keptA n0 L (b + i) = true then x else .box [] true
  | [], _, _ => by simp [blankA]
  | x :: σ, b, 0 => by simp [blankA]
  | x :: σ, b, i + 1 => by simp only [blankA, List.getElem?_cons_succ]; rw [blankA_get, show b + 1 + i = b + (i + 1) by omega]
theorem blankA_length {n0 : Nat} {L : List Nat} : ∀ {σ : Sto} {b : Nat}, (blankA n0 L b σ).length = σ.length
  | [], _ => rfl
  | _ :: σ, _ => by simp [blankA, blankA_length]
theorem max_le {n0 : Nat} : ∀ {L : List Nat} {a : Nat}, a ≤ L.foldl (fun a b => max a (b + 1)) a
  | [], _ => Nat.le_refl _
  | b :: L, a => Nat.le_trans (Nat.le_max_left a (b + 1)) (max_le (n0 := n0) (L := L))
theorem max_mem : ∀ {L : List Nat} {a b : Nat}, b ∈ L → b < L.foldl (fun a b => max a (b + 1)) a
  | c :: L, a, b, h => by
    simp only [List.foldl_cons]
    rcases List.mem_cons.1 h with rfl | h
    · exact Nat.lt_of_lt_of_le (by omega) (max_le (n0 := 0) (L := L) (a := max a (b + 1)))
    · exact max_mem h
theorem gc_keeps {lo n0 : Nat} {dead : List Nat} {fr : List AV} {σ0 σ : Sto} (hn : n0 = σ0.length) (hlo : lo ≤ n0) (h : Keeps lo σ0 σ) : Keeps lo σ0 (gcA dead n0 fr σ).2 := by
  subst hn
  unfold gcA
  split
  · exact h
  · simp only
    generalize reachA σ0.length σ (σ.length - σ0.length) (addNew σ0.length (AV.blockss (clearA' dead fr) ++ (σ.take σ0.length).flatMap fun x => AV.blockss x.parts) []) = L
    split
    · have hmn : σ0.length ≤ L.foldl (fun a b => max a (b + 1)) σ0.length := max_le (n0 := 0)
      refine ⟨by rw [blankA_length, List.length_take]; have := h.1; omega, fun b hb => ?_⟩
      rw [blankA_get, Nat.zero_add, List.getElem?_take, if_pos (by omega), ← h.2 b hb]
      have hk : keptA σ0.length L b = true := by simp [keptA]; left; omega
      cases σ[b]? <;> simp [hk]
    · exact h
theorem loopW_keeps {lo n0 : Nat} {dead : List Nat} {x : Option (XE × List AV × Sto)} {σ0 σ' : Sto} {e : XE} {fr' : List AV} (hn : n0 = σ0.length) (hlo : lo ≤ n0) (hx : ∀ e fr1 σ1, x = some (e, fr1, σ1) → Keeps lo σ0 σ1)
    (h : loopW dead n0 x = some (e, fr', σ')) : Keeps lo σ0 σ' := by
  unfold loopW at h
  split at h
  · rename_i fr1 σ1
    simp only [Option.some.injEq, Prod.mk.injEq] at h
    obtain ⟨_, h⟩ := h
    have := gc_keeps (dead := dead) (fr := fr1) hn hlo (hx _ _ _ rfl)
    rw [h] at this; exact this
  · exact hx _ _ _ h
def RecKeeps (rec : Exec) : Prop := ∀ fn lo c fr σ e fr' σ', lo ≤ σ.length → rec fn lo c fr σ = some (e, fr', σ') → Keeps lo σ σ'
theorem callW_keeps {rec : Exec} (h : RecKeeps rec) : CallKeeps (callW P rec) := by
  intro f args lo σ r σ' hlo hc
  unfold callW at hc
  split at hc
  · split at hc
    · rename_i fn' _ b _
      unfold finA at hc
      split at hc
      · cases hc
      · rename_i e
        simp only [Option.map_eq_some_iff, Prod.mk.injEq] at hc
        obtain ⟨_, _, _, rfl⟩ := hc
        exact h _ _ _ _ _ _ _ _ hlo e
      · cases hc
    · cases hc
  · cases hc
theorem seqW_keeps {rec : Exec} (h : RecKeeps rec) {fn lo : Nat} {b : Code} {x : Option (XE × List AV × Sto)} {σ σ' : Sto} {e : XE} {fr' : List AV} (hlo : lo ≤ σ.length)
    (hx : ∀ e fr1 σ1, x = some (e, fr1, σ1) → Keeps lo σ σ1) (hs : seqW rec fn lo b x = some (e, fr', σ')) : Keeps lo σ σ' := by
  unfold seqW at hs
  split at hs
  · have k := hx _ _ _ rfl
    exact k.trans (h _ _ _ _ _ _ _ _ (Nat.le_trans hlo k.1) hs)
  · exact hx _ _ _ hs
theorem execW_keeps {cfg : Cfg} {rec : Exec} (h : RecKeeps rec) : RecKeeps (execW P cfg rec) := by
  intro fn lo c fr σ e fr' σ' hlo hc
  have hk := callW_keeps (P := P) h
  cases c
  case region id ops draw =>
    cases draw <;> simp only [execW, normW, Option.map_eq_some_iff, Prod.mk.injEq] at hc
    · obtain ⟨⟨fr1, σ1⟩, hc, _, _, rfl⟩ := hc
      exact opsA_keeps hk hlo hc
    · obtain ⟨⟨fr1, σ1⟩, hc, _, _, rfl⟩ := hc
      exact regionA_keeps hk hlo hc
  all_goals simp only [execW] at hc
  case skip => cases hc; exact .refl _ _
  case label => cases hc; exact .refl _ _
  case exit => cases hc; exact .refl _ _
  case ret => cases hc; exact .refl _ _
  case seq a b => exact seqW_keeps h hlo (fun _ _ _ e => h _ _ _ _ _ _ _ _ hlo e) hc
  case loop b => exact seqW_keeps h hlo (fun _ _ _ e => loopW_keeps rfl hlo (fun _ _ _ e => h _ _ _ _ _ _ _ _ hlo e) e) hc
  case scope b => exact h _ _ _ _ _ _ _ _ hlo hc
  case cond x a b =>
    unfold condW at hc
    split at hc
    · exact h _ _ _ _ _ _ _ _ hlo hc
    · exact h _ _ _ _ _ _ _ _ hlo hc
    · cases hc
  case block id b =>
    unfold blockW at hc
    split at hc
    · rename_i e1
      split at hc <;> (cases hc; exact h _ _ _ _ _ _ _ _ hlo e1)
    · exact h _ _ _ _ _ _ _ _ hlo hc
  all_goals cases hc
theorem exec_keeps {cfg : Cfg} : ∀ (k : Nat), RecKeeps (exec P cfg k)
  | 0 => fun _ _ _ _ _ _ _ _ _ h => by simp [exec] at h
  | k + 1 => execW_keeps (exec_keeps k)
theorem callF_keeps {cfg : Cfg} (k : Nat) : CallKeeps (callF P cfg k) := callW_keeps (exec_keeps k)
end Go.Abs
namespace Go.Abs
open Go.RowKit (Below)
variable {P : Program} {R : Ren} {σ : Sto} {w : World} {lo base : Nat}
def Ren.cut (R : Ren) (T : Nat) : Ren := ⟨fun b => if b < T then R.box b else none, fun b => if b < T then R.rows b else none, R.im⟩
theorem Ren.cut_le_cut (R : Ren) {T T' : Nat} (h : T ≤ T') : (R.cut T).Le (R.cut T') :=
  ⟨fun b B e => by simp only [Ren.cut] at *; split at e <;> first | cases e | (rw [if_pos (by omega)]; exact e),
   fun b r e => ⟨r, by simp only [Ren.cut] at *; split at e <;> first | cases e | (rw [if_pos (by omega)]; exact e), Nat.le_refl _, fun _ => rfl⟩, fun _ _ _ e => e⟩
theorem Ren.cut_le (R : Ren) (T : Nat) : (R.cut T).Le R :=
  ⟨fun b B e => by simp only [Ren.cut] at *; split at e <;> first | cases e | exact e,
   fun b r e => ⟨r, by simp only [Ren.cut] at *; split at e <;> first | cases e | exact e, Nat.le_refl _, fun _ => rfl⟩, fun _ _ _ e => e⟩
theorem Ren.le_cut {R0 R : Ren} {T : Nat} (h : R0.Le R) (d : ∀ b, T ≤ b → R0.box b = none ∧ R0.rows b = none) : R0.Le (R.cut T) := by
  refine ⟨fun b B e => ?_, fun b r e => ?_, h.im⟩
  · simp only [Ren.cut]
    by_cases hb : b < T
    · rw [if_pos hb]; exact h.box b B e
    · rw [(d b (by omega)).1] at e; cases e
  · simp only [Ren.cut]
    by_cases hb : b < T
    · rw [if_pos hb]; exact h.rows b r e
    · rw [(d b (by omega)).2] at e; cases e
theorem Ren.cut_id {T : Nat} (d : ∀ b, T ≤ b → R.box b = none ∧ R.rows b = none) : R.cut T = R := by
  cases R with
  | mk bx rw' im =>
    simp only [Ren.cut, Ren.mk.injEq]
    refine ⟨funext fun b => ?_, funext fun b => ?_, trivial⟩
    · by_cases hb : b < T
      · rw [if_pos hb]
      · rw [if_neg hb]; exact ((d b (by omega)).1).symm
    · by_cases hb : b < T
      · rw [if_pos hb]
      · rw [if_neg hb]; exact ((d b (by omega)).2).symm
theorem Ren.cut_cut (R : Ren) {T T' : Nat} (h : T ≤ T') : (R.cut T').cut T = R.cut T := by
  simp only [Ren.cut, Ren.mk.injEq]
  refine ⟨funext fun b => ?_, funext fun b => ?_, trivial⟩ <;> (by_cases hb : b < T <;> simp [hb]; intro hn; omega)
def Ren.join (R : Ren) (N : Nat) (R1 : Ren) : Ren := ⟨fun b => if b < N then R1.box b else R.box b, fun b => if b < N then R1.rows b else R.rows b, R1.im⟩
section
variable {R1 : Ren} {τ σk σk' : Sto} {w' : World} {lo0 base0 : Nat}
structure Lift (R : Ren) (w : World) (σk : Sto) (R1 : Ren) (σk' : Sto) (w' : World) : Prop where
  step : Step (R.cut σk.length) σk w σk.length w.heap.size R1 σk' w'
  free : ∀ b, σk.length ≤ b → b < σk'.length → R.box b = none ∧ R.rows b = none
theorem Lift.box_old (h : Lift R w σk R1 σk' w') {b : Nat} (hb : ¬ (σk.length ≤ b ∧ b < σk'.length)) : (R.join σk'.length R1).box b = R.box b := by
  simp only [Ren.join]
  split
  · rw [h.step.boxOld b (by omega)]; simp only [Ren.cut]; rw [if_pos (by omega)]
  · rfl
theorem Lift.rows_old (h : Lift R w σk R1 σk' w') {b : Nat} (hb : ¬ (σk.length ≤ b ∧ b < σk'.length)) : (R.join σk'.length R1).rows b = R.rows b := by
  simp only [Ren.join]
  split
  · rw [h.step.rowsOld b (by omega) (by omega)]; simp only [Ren.cut]; rw [if_pos (by omega)]
  · rfl
theorem Lift.le (h : Lift R w σk R1 σk' w') : R.Le (R.join σk'.length R1) := by
  refine ⟨fun b B e => ?_, fun b r e => ⟨r, ?_, Nat.le_refl _, fun _ => rfl⟩, fun B o v e => h.step.le.im B o v e⟩
  · by_cases hb : σk.length ≤ b ∧ b < σk'.length
    · rw [(h.free b hb.1 hb.2).1] at e; cases e
    · rw [h.box_old hb]; exact e
  · by_cases hb : σk.length ≤ b ∧ b < σk'.length
    · rw [(h.free b hb.1 hb.2).2] at e; cases e
    · rw [h.rows_old hb]; exact e
theorem Lift.le_cut (h : Lift R w σk R1 σk' w') (T : Nat) : (R.cut T).Le ((R.join σk'.length R1).cut T) := by
  refine ⟨fun b B e => ?_, fun b r e => ⟨r, ?_, Nat.le_refl _, fun _ => rfl⟩, fun B o v e => h.step.le.im B o v e⟩
  · simp only [Ren.cut] at e ⊢
    split at e
    · rename_i hT; rw [if_pos hT]; exact h.le.box b B e
    · cases e
  · simp only [Ren.cut] at e ⊢
    split at e
    · rename_i hT; rw [if_pos hT]
      by_cases hb : σk.length ≤ b ∧ b < σk'.length
      · rw [(h.free b hb.1 hb.2).2] at e; cases e
      · rw [h.rows_old hb]; exact e
    · cases e
theorem Lift.own_le (h : Lift R w σk R1 σk' w') {T : Nat} (hT : σk'.length ≤ T) : R1.Le ((R.join σk'.length R1).cut T) := by
  refine ⟨fun b B e => ?_, fun b r e => ⟨r, ?_, Nat.le_refl _, fun _ => rfl⟩, fun _ _ _ e => e⟩
  · have hb : b < σk'.length := h.step.inv.at_lt (.inl e)
    simp only [Ren.cut, Ren.join]; rw [if_pos (by omega), if_pos hb]; exact e
  · have hb : b < σk'.length := h.step.inv.at_lt (.inr ⟨r, e, rfl⟩)
    simp only [Ren.cut, Ren.join]; rw [if_pos (by omega), if_pos hb]; exact e
theorem Lift.inv (h : Lift R w σk R1 σk' w') (I : Inv (R.cut τ.length) τ w lo0 base0) (hb0 : base0 ≤ w.heap.size)
    (ha : τ.length ≤ σk.length ∨ (σk'.length ≤ τ.length ∧ ∀ b, σk.length ≤ b → b < σk'.length → τ[b]? = σk'[b]?)) : Inv ((R.join σk'.length R1).cut τ.length) τ w' lo0 base0 := by
  have hN := h.step.len
  have hAt : ∀ {b B}, At ((R.join σk'.length R1).cut τ.length) b B → (σk.length ≤ b ∧ b < σk'.length ∧ σk'.length ≤ τ.length ∧ At R1 b B) ∨ (¬ (σk.length ≤ b ∧ b < σk'.length) ∧ At (R.cut τ.length) b B) := by
    intro b B hA
    have hbT : b < τ.length := by
      rcases hA with hA | ⟨r, hA, _⟩ <;> (simp only [Ren.cut] at hA; split at hA <;> first | assumption | cases hA)
    by_cases hb : σk.length ≤ b ∧ b < σk'.length
    · refine .inl ⟨hb.1, hb.2, ?_, ?_⟩
      · rcases ha with ha | ha
        · omega
        · exact ha.1
      · rcases hA with hA | ⟨r, hA, e⟩
        · simp only [Ren.cut, Ren.join] at hA; rw [if_pos hbT, if_pos hb.2] at hA; exact .inl hA
        · simp only [Ren.cut, Ren.join] at hA; rw [if_pos hbT, if_pos hb.2] at hA; exact .inr ⟨r, hA, e⟩
    · refine .inr ⟨hb, ?_⟩
      rcases hA with hA | ⟨r, hA, e⟩
      · left; simp only [Ren.cut] at hA ⊢; rw [if_pos hbT] at hA ⊢; rw [h.box_old hb] at hA; exact hA
      · right; refine ⟨r, ?_, e⟩; simp only [Ren.cut] at hA ⊢; rw [if_pos hbT] at hA ⊢; rw [h.rows_old hb] at hA; exact hA
  have hbox : ∀ {b B}, ((R.join σk'.length R1).cut τ.length).box b = some B → (σk.length ≤ b ∧ b < σk'.length ∧ σk'.length ≤ τ.length ∧ R1.box b = some B) ∨ (¬ (σk.length ≤ b ∧ b < σk'.length) ∧ (R.cut τ.length).box b = some B) := by
    intro b B hA
    simp only [Ren.cut] at hA
    split at hA
    · rename_i hbT
      by_cases hb : σk.length ≤ b ∧ b < σk'.length
      · refine .inl ⟨hb.1, hb.2, by rcases ha with ha | ha <;> omega, ?_⟩
        simp only [Ren.join] at hA; rw [if_pos hb.2] at hA; exact hA
      · refine .inr ⟨hb, ?_⟩
        simp only [Ren.cut]; rw [if_pos hbT, ← h.box_old hb]; exact hA
    · cases hA
  have hrows : ∀ {b r}, ((R.join σk'.length R1).cut τ.length).rows b = some r → (σk.length ≤ b ∧ b < σk'.length ∧ σk'.length ≤ τ.length ∧ R1.rows b = some r) ∨ (¬ (σk.length ≤ b ∧ b < σk'.length) ∧ (R.cut τ.length).rows b = some r) := by
    intro b r hA
    simp only [Ren.cut] at hA
    split at hA
    · rename_i hbT
      by_cases hb : σk.length ≤ b ∧ b < σk'.length
      · refine .inl ⟨hb.1, hb.2, by rcases ha with ha | ha <;> omega, ?_⟩
        simp only [Ren.join] at hA; rw [if_pos hb.2] at hA; exact hA
      · refine .inr ⟨hb, ?_⟩
        simp only [Ren.cut]; rw [if_pos hbT, ← h.rows_old hb]; exact hA
    · cases hA
  have hag : ∀ {b}, σk.length ≤ b → b < σk'.length → σk'.length ≤ τ.length → τ[b]? = σk'[b]? := by
    intro b h1 h2 h3
    rcases ha with ha | ha
    · omega
    · exact ha.2 b h1 h2
  have hheap : ∀ B, B < w.heap.size → w'.heap[B]? = w.heap[B]? := h.step.below.block
  have hle := h.le_cut τ.length
  have himOld : ∀ {b B}, At (R.cut τ.length) b B → (∀ o, R.im B o = none) → ∀ o, R1.im B o = none := fun {b B} hA hn o => by
    cases e : R1.im B o with
    | none => rfl
    | some v =>
      have h1 := h.step.imNew B o v e (hn o)
      have h2 := I.at_heap hA
      omega
  have hnew : ∀ {b B}, σk.length ≤ b → At R1 b B → w.heap.size ≤ B := fun h1 hA => h.step.inv.base _ _ h1 hA
  refine ⟨h.step.inv.im, fun b hb => ⟨by simp only [Ren.cut]; rw [if_neg (by omega)], by simp only [Ren.cut]; rw [if_neg (by omega)]⟩, ?_, ?_, ?_, ?_, ?_, ?_, ?_, ?_⟩
  · intro b cs fz hτ
    cases e : ((R.join σk'.length R1).cut τ.length).rows b with
    | none => rfl
    | some r =>
      rcases hrows e with ⟨h1, h2, h3, h4⟩ | ⟨h1, h2⟩
      · rw [hag h1 h2 h3] at hτ; rw [h.step.inv.kindB b cs fz hτ] at h4; cases h4
      · rw [I.kindB b cs fz hτ] at h2; cases h2
  · intro b es g sz fz hτ
    cases e : ((R.join σk'.length R1).cut τ.length).box b with
    | none => rfl
    | some B =>
      rcases hbox e with ⟨h1, h2, h3, h4⟩ | ⟨h1, h2⟩
      · rw [hag h1 h2 h3] at hτ; rw [h.step.inv.kindR b es g sz fz hτ] at h4; cases h4
      · rw [I.kindR b es g sz fz hτ] at h2; cases h2
  · intro b cs fz hτ B e
    rcases hbox e with ⟨h1, h2, h3, h4⟩ | ⟨h1, h2⟩
    · rw [hag h1 h2 h3] at hτ
      exact (h.step.inv.box b cs fz hτ B h4).mono (h.own_le h3) rfl
    · exact (I.box b cs fz hτ B h2).mono hle (hheap B (I.at_heap (.inl h2)))
  · intro b es g sz fz hτ r e
    rcases hrows e with ⟨h1, h2, h3, h4⟩ | ⟨h1, h2⟩
    · rw [hag h1 h2 h3] at hτ
      obtain ⟨g1, g2⟩ := h.step.inv.rows b es g sz fz hτ r h4
      exact ⟨g1, g2.mono (h.own_le h3) rfl⟩
    · obtain ⟨g1, g2⟩ := I.rows b es g sz fz hτ r h2
      exact ⟨g1, g2.mono hle (hheap _ (I.at_heap (.inr ⟨r, h2, rfl⟩)))⟩
  · intro b b' B h1 h2
    rcases hAt h1 with ⟨p1, p2, p3, p4⟩ | ⟨p1, p2⟩ <;> rcases hAt h2 with ⟨q1, q2, q3, q4⟩ | ⟨q1, q2⟩
    · exact h.step.inv.apart b b' B p4 q4
    · have := hnew p1 p4; have := I.at_heap q2; omega
    · have := hnew q1 q4; have := I.at_heap p2; omega
    · exact I.apart b b' B p2 q2
  · intro b B h1 h2
    rcases hAt h2 with ⟨p1, p2, p3, p4⟩ | ⟨p1, p2⟩
    · exact Nat.le_trans hb0 (hnew p1 p4)
    · exact I.base b B h1 p2
  · intro b cs h1 hτ B e o
    rcases hbox e with ⟨p1, p2, p3, p4⟩ | ⟨p1, p2⟩
    · rw [hag p1 p2 p3] at hτ
      exact h.step.inv.openB b cs p1 hτ B p4 o
    · exact himOld (.inl p2) (I.openB b cs h1 hτ B p2) o
  · intro b es g sz h1 hτ r e o
    rcases hrows e with ⟨p1, p2, p3, p4⟩ | ⟨p1, p2⟩
    · rw [hag p1 p2 p3] at hτ
      exact h.step.inv.openR b es g sz p1 hτ r p4 o
    · exact himOld (.inr ⟨r, p2, rfl⟩) (I.openR b es g sz h1 hτ r p2) o
theorem Lift.on {R0 : Ren} {w0 : World} {σ : Sto} (h : Lift R w σk R1 σk' w') (st : Step R0 σ w0 lo base R τ w) (hb : base ≤ w.heap.size) (hσ : σ.length ≤ σk.length)
    (ha : τ.length ≤ σk.length ∧ σk'.length ≤ τ.length ∨ (σk'.length ≤ τ.length ∧ ∀ b, σk.length ≤ b → b < σk'.length → τ[b]? = σk'[b]?)) : Step R0 σ w0 lo base (R.join σk'.length R1) τ w' := by
  have hid : R.cut τ.length = R := Ren.cut_id st.inv.dom
  have hT : σk'.length ≤ τ.length := by rcases ha with ha | ha <;> omega
  have hid' : (R.join σk'.length R1).cut τ.length = R.join σk'.length R1 := Ren.cut_id fun b hb => by
    rw [h.box_old (by omega), h.rows_old (by omega)]; exact st.inv.dom b hb
  have I' := h.inv (τ := τ) (lo0 := lo) (base0 := base) (by rw [hid]; exact st.inv) hb (ha.imp (fun h => h.1) id)
  rw [hid'] at I'
  refine ⟨st.le.trans h.le, I', st.below.trans (h.step.below.mono hb), fun B o v e n => ?_, st.keep, st.len, fun b hb' => ?_, fun b h1 h2 => ?_, fun B hB hn => ?_, fun b B hlb hA => ?_, fun B o v e n => ?_⟩
  · cases e' : R.im B o with
    | none => exact Nat.le_trans hb (h.step.imNew B o v e e')
    | some u => exact st.imNew B o u e' n
  · rw [h.box_old (by omega)]; exact st.boxOld b hb'
  · rw [h.rows_old (by omega)]; exact st.rowsOld b h1 h2
  · rw [h.step.below.block B (Nat.lt_of_lt_of_le hB st.below.size)]; exact st.frame B hB hn
  · by_cases hold : σk.length ≤ b ∧ b < σk'.length
    · have hA1 : At R1 b B := by
        rcases hA with hA | ⟨r, hA, rfl⟩
        · simp only [Ren.join] at hA; rw [if_pos hold.2] at hA; exact .inl hA
        · simp only [Ren.join] at hA; rw [if_pos hold.2] at hA; exact .inr ⟨r, hA, rfl⟩
      rcases h.step.fresh b B hold.1 hA1 with hA2 | hA2
      · exfalso
        rcases hA2 with hA2 | ⟨r, hA2, rfl⟩ <;> · simp only [Ren.cut] at hA2; rw [if_neg (by omega)] at hA2; cases hA2
      · exact .inr (Nat.le_trans st.below.size hA2)
    · refine st.fresh b B hlb ?_
      rcases hA with hA | ⟨r, hA, rfl⟩
      · rw [h.box_old hold] at hA; exact .inl hA
      · rw [h.rows_old hold] at hA; exact .inr ⟨r, hA, rfl⟩
  · cases e' : R.im B o with
    | none => exact .inr (Nat.le_trans st.below.size (h.step.imNew B o v e e'))
    | some u => exact st.imAt B o u e' n
end
end Go.Abs
namespace Go.Abs
variable {P : Program}
theorem maskOf_bit {acc : List Nat} {i : Nat} : ∀ {es : List Edge}, (maskOf acc es).testBit i = true → ∃ e ∈ es, Region.binds .any e = true ∧ (e.on = i ∨ (acc.getD e.on 0).testBit i = true)
  | [], h => by simp [maskOf] at h
  | e :: es, h => by
    simp only [maskOf, Nat.testBit_or, Bool.or_eq_true] at h
    rcases h with h | h
    · split at h
      · rename_i hb
        simp only [Nat.testBit_or, Bool.or_eq_true] at h
        refine ⟨e, by simp, hb, ?_⟩
        rcases h with h | h
        · rw [Nat.testBit_two_pow] at h; exact .inl (by simpa using h)
        · exact .inr h
      · simp at h
    · obtain ⟨e', m, k⟩ := maskOf_bit h
      exact ⟨e', by simp [m], k⟩
theorem masks_spec : ∀ (l : List Oper) (acc : List Nat), (∀ i < acc.length, (masks l acc)[i]? = acc[i]?) ∧
    ∀ i o, l[i]? = some o → (masks l acc).getD (acc.length + i) 0 = maskOf ((masks l acc).take (acc.length + i)) o.after.toList
  | [], acc => ⟨fun _ _ => rfl, fun i o h => by simp at h⟩
  | o :: rest, acc => by
    obtain ⟨h1, h2⟩ := masks_spec rest (acc ++ [maskOf acc o.after.toList])
    have hpre : ∀ i < acc.length, (masks (o :: rest) acc)[i]? = acc[i]? := fun i hi => by
      simp only [masks]
      rw [h1 i (by simp; omega), List.getElem?_append_left hi]
    refine ⟨hpre, fun i o' h => ?_⟩
    cases i with
    | zero =>
      simp only [List.getElem?_cons_zero, Option.some.injEq] at h
      subst h
      have e1 : (masks (o :: rest) acc)[acc.length]? = some (maskOf acc o.after.toList) := by
        simp only [masks]
        rw [h1 acc.length (by simp)]
        simp
      have e2 : (masks (o :: rest) acc).take acc.length = acc := by
        apply List.ext_getElem?; intro j
        rw [List.getElem?_take]
        split
        · rename_i hj; exact hpre j hj
        · rename_i hj; exact (List.getElem?_eq_none (by omega)).symm
      simp only [Nat.add_zero, List.getD_eq_getElem?_getD, e1, e2, Option.getD_some]
    | succ i =>
      have := h2 i o' (by simpa using h)
      simp only [List.length_append, List.length_cons, List.length_nil, Nat.zero_add] at this
      simp only [masks]
      rw [show acc.length + (i + 1) = acc.length + 1 + i by omega]
      exact this
theorem mask_bit {ops : Array Oper} {i j : Nat} {o : Oper} (hj : ops[j]? = some o) (h : ((masks ops.toList []).getD j 0).testBit i = true) :
    ∃ e ∈ o.after.toList, Region.binds .any e = true ∧ (e.on = i ∨ e.on < j ∧ ((masks ops.toList []).getD e.on 0).testBit i = true) := by
  have := (masks_spec ops.toList []).2 j o (by simpa using hj)
  simp only [List.length_nil, Nat.zero_add] at this
  rw [this] at h
  obtain ⟨e, m, b, k⟩ := maskOf_bit h
  refine ⟨e, m, b, k.imp id fun k => ?_⟩
  rw [List.getD_eq_getElem?_getD, List.getElem?_take] at k
  split at k
  · rename_i hlt
    exact ⟨hlt, by rw [List.getD_eq_getElem?_getD]; exact k⟩
  · simp at k
def Closed (ops : Array Oper) (L : Array Bool) : Prop := ∀ j o, ops[j]? = some o → L.getD j false = true → ∀ e ∈ o.after, Region.binds .any e = true → L.getD e.on false = true
theorem before_in {ops : Array Oper} {L : Array Bool} (hc : Closed ops L) : ∀ {j : Nat} {o : Oper}, ops[j]? = some o → (∀ e ∈ o.after, Region.binds .any e = true → L.getD e.on false = true) →
    ∀ {i : Nat}, ((masks ops.toList []).getD j 0).testBit i = true → L.getD i false = true := by
  intro j
  induction j using Nat.strongRecOn with
  | ind j ih =>
    intro o hj hr i hb
    obtain ⟨e, m, b, k⟩ := mask_bit hj hb
    have he := hr e (by simpa using m) b
    rcases k with rfl | ⟨hlt, k⟩
    · exact he
    · have hsz : j < ops.size := (Array.getElem?_eq_some_iff.1 hj).1
      have hon : ops[e.on]? = some ops[e.on] := Array.getElem?_eq_getElem (by omega)
      exact ih e.on hlt hon (fun e' m' b' => hc e.on _ hon he e' m' b') k
def StepAt (P : Program) (cfg : Cfg) (call : Caller) (caller lo : Nat) (ops : Array Oper) (o : Oper) (fr : List AV) (σ : Sto) (r : AV) (t : Option Nat) (fr' : List AV) (σ' : Sto) : Prop :=
  fr' = putA fr o.dst r ∧
  ((wantedA ops fr o = some true ∧ opA P cfg call caller (if classA cfg caller o.op = 2 then lo else σ.length) fr σ o.op = some (r, σ') ∧ t = lookA cfg fr o.op) ∨
   (wantedA ops fr o = some false ∧ r = undefA ∧ σ' = σ ∧ t = none))
theorem drawA_trace {cfg : Cfg} {call : Caller} {caller lo : Nat} {ops : Array Oper} : ∀ {l : List Oper} {tr tr' : List (Option Nat)} {fr fr' : List AV} {σ σ' : Sto}, drawA P cfg call caller lo ops l tr fr σ = some (tr', fr', σ') →
    ∃ (F : Nat → List AV) (S : Nat → Sto) (r : Nat → AV), F 0 = fr ∧ S 0 = σ ∧ F l.length = fr' ∧ S l.length = σ' ∧ (∀ i < tr.length, tr'[i]? = tr[i]?) ∧
      ∀ i o, l[i]? = some o → StepAt P cfg call caller lo ops o (F i) (S i) (r i) (tr'.getD (tr.length + i) none) (F (i + 1)) (S (i + 1))
  | [], tr, tr', fr, fr', σ, σ', h => by
    simp only [drawA, Option.some.injEq, Prod.mk.injEq] at h
    obtain ⟨rfl, rfl, rfl⟩ := h
    exact ⟨fun _ => fr, fun _ => σ, fun _ => undefA, rfl, rfl, rfl, rfl, fun _ _ => rfl, fun i o h => by simp at h⟩
  | o :: rest, tr, tr', fr, fr', σ, σ', h => by
    simp only [drawA] at h
    have go : ∀ (t : Option Nat) (r0 : AV) (σ1 : Sto), drawA P cfg call caller lo ops rest (tr ++ [t]) (putA fr o.dst r0) σ1 = some (tr', fr', σ') →
        ((wantedA ops fr o = some true ∧ opA P cfg call caller (if classA cfg caller o.op = 2 then lo else σ.length) fr σ o.op = some (r0, σ1) ∧ t = lookA cfg fr o.op) ∨ (wantedA ops fr o = some false ∧ r0 = undefA ∧ σ1 = σ ∧ t = none)) →
        ∃ (F : Nat → List AV) (S : Nat → Sto) (r : Nat → AV), F 0 = fr ∧ S 0 = σ ∧ F (o :: rest).length = fr' ∧ S (o :: rest).length = σ' ∧ (∀ i < tr.length, tr'[i]? = tr[i]?) ∧
          ∀ i o', (o :: rest)[i]? = some o' → StepAt P cfg call caller lo ops o' (F i) (S i) (r i) (tr'.getD (tr.length + i) none) (F (i + 1)) (S (i + 1)) := by
      intro t r0 σ1 h hs
      obtain ⟨F, S, r, h1, rfl, h3, h4, h5, h6⟩ := drawA_trace h
      refine ⟨fun | 0 => fr | i + 1 => F i, fun | 0 => σ | i + 1 => S i, fun | 0 => r0 | i + 1 => r i, rfl, rfl, h3, h4, fun i hi => ?_, fun i o' ho => ?_⟩
      · rw [h5 i (by simp; omega), List.getElem?_append_left hi]
      · cases i with
        | zero =>
          simp only [List.getElem?_cons_zero, Option.some.injEq] at ho
          subst ho
          have ht : tr'.getD (tr.length + 0) none = t := by
            rw [Nat.add_zero, List.getD_eq_getElem?_getD, h5 tr.length (by simp)]; simp
          rw [ht]
          exact ⟨h1, hs⟩
        | succ i =>
          have := h6 i o' (by simpa using ho)
          simp only [List.length_append, List.length_cons, List.length_nil, Nat.zero_add] at this
          rw [show tr.length + (i + 1) = tr.length + 1 + i by omega]
          exact this
    split at h
    · rename_i hw
      split at h
      · rename_i r0 σ1 e
        exact go _ _ _ h (.inl ⟨hw, e, rfl⟩)
      · cases h
    · rename_i hw
      exact go _ _ _ h (.inr ⟨hw, rfl, rfl, rfl⟩)
    · cases h
end Go.Abs
namespace Go.Abs
open Go.RowKit (Below)
variable {P : Program}
structure Reg (P : Program) (cfg : Cfg) (call : Caller) (caller lo : Nat) (ops : Array Oper) (F : Nat → List AV) (S : Nat → Sto) (r : Nat → AV) (tr : List (Option Nat)) : Prop where
  steps : ∀ i o, ops[i]? = some o → StepAt P cfg call caller lo ops o (F i) (S i) (r i) (tr.getD i none) (F (i + 1)) (S (i + 1))
  ok : drawOk cfg caller ops = true
  pairs : (pairsA cfg caller ops).all (pairOk tr) = true
  dsts : ∀ (i : Nat) o, ops[i]? = some o → ∀ d, o.dst = some d → d < (F 0).length
  keeps : CallKeeps call
  lo : lo ≤ (S 0).length
section
variable {cfg : Cfg} {call : Caller} {caller lo : Nat} {ops : Array Oper} {F : Nat → List AV} {S : Nat → Sto} {r : Nat → AV} {tr : List (Option Nat)}
theorem zip_mem {α : Type} {l : List α} {i : Nat} {x : α} (h : l[i]? = some x) : (x, i) ∈ l.zipIdx := by
  rw [List.mem_zipIdx_iff_getElem?]; exact h
theorem Reg.pair (g : Reg P cfg call caller lo ops F S r tr) {i j : Nat} {x y : Oper} (hx : ops[i]? = some x) (hy : ops[j]? = some y) (hij : i < j) :
    (x.dst = none ∨ x.dst ≠ y.dst) ∧ (((masks ops.toList []).getD j 0).testBit i = true ∨ besideA cfg caller ops (firstOf cfg caller ops.toList) x j y = true) := by
  have h := g.ok
  unfold drawOk at h
  simp only [List.all_eq_true, Bool.and_eq_true, Bool.or_eq_true] at h
  have h1 := (h (y, j) (zip_mem (by simpa using hy))).2 (x, i) (zip_mem (by rw [List.getElem?_take, if_pos hij]; simpa using hx))
  simp only at h1
  refine ⟨h1.1.imp (by simp) (by simp), h1.2⟩
theorem Reg.edges (g : Reg P cfg call caller lo ops F S r tr) {j : Nat} {y : Oper} (hy : ops[j]? = some y) : ∀ e ∈ y.after, Region.binds .any e = true → e.on < j := by
  have h := g.ok
  unfold drawOk at h
  simp only [List.all_eq_true, Bool.and_eq_true, Bool.or_eq_true] at h
  have h1 := (h (y, j) (zip_mem (by simpa using hy))).1
  simp only [Array.all_eq_true_iff_forall_mem, Bool.or_eq_true, Bool.not_eq_true', decide_eq_true_eq] at h1
  intro e he hb
  rcases h1 e he with h | h
  · rw [h] at hb; cases hb
  · exact h
theorem Reg.apart (g : Reg P cfg call caller lo ops F S r tr) {i j : Nat} {x y : Oper} (hx : ops[i]? = some x) (hy : ops[j]? = some y) (hij : i < j) (hn : ((masks ops.toList []).getD j 0).testBit i = false) :
    (mayLook x.op = true → classA cfg caller y.op = 2 → ∀ b, tr.getD i none = some b → isStore y.op = true ∧ tr.getD j none ≠ some b) ∧
    (mayLook y.op = true → classA cfg caller x.op = 2 → ∀ b, tr.getD j none = some b → isStore x.op = true ∧ tr.getD i none ≠ some b) := by
  have h := g.pairs
  simp only [List.all_eq_true] at h
  have hm : ∀ p, p ∈ ((if mayLook x.op && classA cfg caller y.op == 2 then [(i, j, isStore y.op)] else []) ++ (if mayLook y.op && classA cfg caller x.op == 2 then [(j, i, isStore x.op)] else [])) → p ∈ pairsA cfg caller ops := by
    intro p hp
    unfold pairsA
    simp only [List.mem_flatMap]
    refine ⟨(y, j), zip_mem (by simpa using hy), (x, i), zip_mem (by rw [List.getElem?_take, if_pos hij]; simpa using hx), ?_⟩
    simp only [hn, Bool.false_eq_true, if_false]
    exact hp
  constructor
  · intro h1 h2 b hb
    have := h (i, j, isStore y.op) (hm _ (by simp [h1, h2]))
    simp only [pairOk, hb, Bool.and_eq_true, bne_iff_ne, ne_eq] at this
    exact this
  · intro h1 h2 b hb
    have := h (j, i, isStore x.op) (hm _ (by simp [h1, h2]))
    simp only [pairOk, hb, Bool.and_eq_true, bne_iff_ne, ne_eq] at this
    exact this
theorem look_may {fr : List AV} {o : Op} {b : Nat} (h : lookA cfg fr o = some b) : mayLook o = true ∨ classA cfg caller o = 2 := by
  cases o <;> simp [lookA, mayLook, classA] at h ⊢
theorem class_two (o : Op) : classA cfg caller o = 0 ∨ classA cfg caller o = 1 ∨ classA cfg caller o = 2 := by
  cases o <;> simp only [classA] <;> try (simp; done)
  rename_i c
  split
  all_goals (try split)
  all_goals (try split)
  all_goals simp
theorem Reg.keep1 (g : Reg P cfg call caller lo ops F S r tr) {i : Nat} {o : Oper} (ho : ops[i]? = some o) (hlo : lo ≤ (S i).length) : Keeps lo (S i) (S (i + 1)) ∧ (classA cfg caller o.op ≠ 2 → Keeps (S i).length (S i) (S (i + 1))) := by
  obtain ⟨_, h | h⟩ := g.steps i o ho
  · obtain ⟨_, h, _⟩ := h
    by_cases c : classA cfg caller o.op = 2
    · rw [if_pos c] at h
      exact ⟨opA_keeps g.keeps hlo h, fun n => absurd c n⟩
    · rw [if_neg c] at h
      have := opA_keeps g.keeps (Nat.le_refl _) h
      exact ⟨this.mono hlo, fun _ => this⟩
  · rw [h.2.2.1]; exact ⟨.refl _ _, fun _ => .refl _ _⟩
theorem Reg.lo_le (g : Reg P cfg call caller lo ops F S r tr) : ∀ {i : Nat}, i ≤ ops.size → lo ≤ (S i).length
  | 0, _ => g.lo
  | i + 1, h => by
    have hi := g.lo_le (i := i) (by omega)
    exact Nat.le_trans hi (g.keep1 (Array.getElem?_eq_getElem (by omega)) hi).1.1
theorem Reg.len_le (g : Reg P cfg call caller lo ops F S r tr) {i : Nat} : ∀ {k : Nat}, i ≤ k → k ≤ ops.size → (S i).length ≤ (S k).length := by
  intro k
  induction k with
  | zero => intro h _; have : i = 0 := by omega
            subst this; exact Nat.le_refl _
  | succ k ih =>
    intro h hk
    by_cases e : i = k + 1
    · subst e; exact Nat.le_refl _
    · exact Nat.le_trans (ih (by omega) (by omega)) (g.keep1 (Array.getElem?_eq_getElem (by omega)) (g.lo_le (by omega))).1.1
theorem Reg.agree (g : Reg P cfg call caller lo ops F S r tr) {i b : Nat} (hb : b < (S i).length) : ∀ {k : Nat}, i ≤ k → k ≤ ops.size →
    (∀ m o, i ≤ m → m < k → ops[m]? = some o → classA cfg caller o.op = 2 → isStore o.op = true ∧ tr.getD m none ≠ some b) → (S k)[b]? = (S i)[b]? := by
  intro k
  induction k with
  | zero => intro h _ _; have : i = 0 := by omega
            subst this; rfl
  | succ k ih =>
    intro h hk hw
    by_cases e : i = k + 1
    · subst e; rfl
    · have hi := ih (by omega) (by omega) (fun m o h1 h2 => hw m o h1 (by omega))
      rw [← hi]
      have ho : ops[k]? = some ops[k] := Array.getElem?_eq_getElem (by omega)
      by_cases c : classA cfg caller ops[k].op = 2
      · obtain ⟨hs, hne⟩ := hw k _ (by omega) (by omega) ho c
        obtain ⟨_, h1 | h1⟩ := g.steps k _ ho
        · obtain ⟨_, h1, h2⟩ := h1
          generalize ops[k].op = op at *
          cases op <;> simp only [isStore, Bool.false_eq_true] at hs
          simp only [opA, opPick, opAlloc, opBox, opBuild, opBuildSlice, op1, op2, opStore, opMkIface, opMakeFunc, opMakeSlice, opSlice, opExtract, sameA] at h1
          split at h1
          · rename_i p v hp hv
            simp only [Option.map_eq_some_iff, Prod.mk.injEq] at h1
            obtain ⟨σ', h1, _, rfl⟩ := h1
            refine (storeA_keeps h1).2 b ?_
            intro e'
            rw [h2] at hne
            simp only [lookA, hp] at hne
            exact hne e'
          · cases h1
        · rw [h1.2.2.1]
      · exact ((g.keep1 ho (g.lo_le (by omega))).2 c).2 b (Nat.lt_of_lt_of_le hb (g.len_le (by omega) (by omega)))
theorem firstOf_le : ∀ (l : List Oper), firstOf cfg caller l ≤ l.length
  | [] => Nat.le_refl _
  | o :: rest => by
    simp only [firstOf]
    split
    · simp
    · have := firstOf_le rest; simp; omega
theorem firstOf_lt : ∀ {l : List Oper} {i : Nat} {o : Oper}, l[i]? = some o → i < firstOf cfg caller l → classA cfg caller o.op ≠ 2
  | [], _, _, h, _ => by simp at h
  | o :: rest, 0, o', h, hi => by
    simp only [firstOf] at hi
    split at hi
    · omega
    · rename_i c; simp at h; subst h; exact c
  | o :: rest, i + 1, o', h, hi => by
    simp only [firstOf] at hi
    split at hi
    · omega
    · exact firstOf_lt (l := rest) (i := i) (by simpa using h) (by omega)
theorem firstOf_at : ∀ {l : List Oper} {o : Oper}, l[firstOf cfg caller l]? = some o → classA cfg caller o.op = 2
  | [], _, h => by simp at h
  | o :: rest, o', h => by
    simp only [firstOf] at h
    split at h
    · rename_i c; simp at h; subst h; exact c
    · exact firstOf_at (l := rest) (by simpa using h)
theorem Reg.flen (g : Reg P cfg call caller lo ops F S r tr) : ∀ {j : Nat}, j ≤ ops.size → (F j).length = (F 0).length
  | 0, _ => rfl
  | j + 1, h => by
    rw [(g.steps j _ (Array.getElem?_eq_getElem (by omega))).1, ← g.flen (j := j) (by omega)]
    unfold putA; split <;> simp
theorem Reg.fold (g : Reg P cfg call caller lo ops F S r tr) {d : Nat} : ∀ {j : Nat}, j ≤ ops.size → (∀ i o, i < j → ops[i]? = some o → o.dst ≠ some d) → (F j)[d]? = (F 0)[d]?
  | 0, _, _ => rfl
  | j + 1, h, hn => by
    rw [← g.fold (j := j) (by omega) (fun i o hi => hn i o (by omega))]
    have ho : ops[j]? = some ops[j] := Array.getElem?_eq_getElem (by omega)
    rw [(g.steps j _ ho).1]
    have := hn j _ (by omega) ho
    unfold putA
    split
    · rename_i e; rw [List.getElem?_set_ne (fun e' => this (by rw [e, e']))]
    · rfl
theorem Reg.fnew (g : Reg P cfg call caller lo ops F S r tr) {d i : Nat} {o : Oper} (ho : ops[i]? = some o) (hd : o.dst = some d) : ∀ {j : Nat}, j ≤ ops.size → i < j → (F j)[d]? = some (r i) := by
  intro j
  induction j with
  | zero => intro _ h; omega
  | succ j ih =>
    intro hj hij
    have hoj : ops[j]? = some ops[j] := Array.getElem?_eq_getElem (by omega)
    rw [(g.steps j _ hoj).1]
    by_cases e : i = j
    · subst e
      rw [ho] at hoj; cases hoj
      simp only [putA, hd]
      rw [List.getElem?_set_self (by rw [g.flen (by omega)]; exact g.dsts i _ ho d hd)]
    · rw [← ih (by omega) (by omega)]
      have := (g.pair ho hoj (by omega)).1
      unfold putA
      split
      · rename_i e'
        rw [List.getElem?_set_ne]
        intro e2; subst e2
        rcases this with h | h
        · rw [hd] at h; cases h
        · exact h (by rw [hd, e'])
      · rfl
end
end Go.Abs
namespace Go.Abs
open Go.RowKit (Below)
variable {P : Program}
section
variable {cfg : Cfg} {call : Caller} {caller lo base : Nat} {ops : Array Oper} {F : Nat → List AV} {S : Nat → Sto} {r : Nat → AV} {tr : List (Option Nat)} {R0 : Ren} {w0 : World}
def Cur (ops : Array Oper) (F : Nat → List AV) (S : Nat → Sto) (r : Nat → AV) (R0 : Ren) (q : Nat) (L : Array Bool) (R : Ren) (d : Nat) (v : Value) : Prop :=
  (∃ j o, ops[j]? = some o ∧ L.getD j false = true ∧ o.dst = some d ∧ VRel R (r j) v ∧ (j < q → VRel (R.cut (S (j + 1)).length) (r j) v)) ∨
  ((∀ (j : Nat) o, ops[j]? = some o → o.dst = some d → L.getD j false = false) ∧ ∃ u, (F 0)[d]? = some u ∧ VRel R0 u v)
structure Mid (ops : Array Oper) (F : Nat → List AV) (S : Nat → Sto) (r : Nat → AV) (R0 : Ren) (w0 : World) (lo base q m : Nat) (L : Array Bool) (a : Act) (w : World) (R : Ren) : Prop where
  size : L.size = ops.size
  closed : Closed ops L
  step : Step R0 (S 0) w0 lo base R (S m) w
  tmps : ∀ (d : Nat) v, a.tmps[d]? = some v → Cur ops F S r R0 q L R d v
  asize : a.tmps.size = (F 0).length
  defers : a.defers = []
theorem getD_set {L : Array Bool} {i j : Nat} {d : Bool} (h : i < L.size) : (L.setIfInBounds i true).getD j d = if i = j then true else L.getD j d := by
  by_cases e : i = j
  · subst e; simp [h]
  · rw [if_neg e]; exact getD_set_ne d e
theorem Mid.next {q q' m m' j : Nat} {L : Array Bool} {a : Act} {w w' : World} {R R' : Ren} {o : Oper} {v : Value} (g : Reg P cfg call caller lo ops F S r tr)
    (M : Mid ops F S r R0 w0 lo base q m L a w R) (ho : ops[j]? = some o) (hr : ∀ e ∈ o.after, Region.binds .any e = true → L.getD e.on false = true)
    (le : R.Le R') (hq : q' = 0 ∨ q' = q ∧ ∀ T, (R.cut T).Le (R'.cut T)) (st : Step R0 (S 0) w0 lo base R' (S m') w')
    (hv : VRel R' (r j) v) (hv' : j < q' → VRel (R'.cut (S (j + 1)).length) (r j) v) : Mid ops F S r R0 w0 lo base q' m' (L.setIfInBounds j true) (a.put o.dst v) w' R' := by
  have hj : j < L.size := by rw [M.size]; exact (Array.getElem?_eq_some_iff.1 ho).1
  have hmore : ∀ {i}, L.getD i false = true → (L.setIfInBounds j true).getD i false = true := fun h => getD_set_true h
  refine ⟨by simp [M.size], ?_, st, ?_, ?_, by rw [put_defers]; exact M.defers⟩
  · intro i o' hi hL e he hb
    rw [getD_set hj] at hL
    split at hL
    · rename_i e1; subst e1
      rw [ho] at hi; cases hi
      exact hmore (hr e he hb)
    · exact hmore (M.closed i o' hi hL e he hb)
  · intro d u hu
    by_cases hd : o.dst = some d
    · left
      refine ⟨j, o, ho, by rw [getD_set hj, if_pos rfl], hd, ?_⟩
      rw [hd] at hu
      simp only [Act.put] at hu
      have hdl : d < a.tmps.size := by rw [M.asize]; exact g.dsts j o ho d hd
      simp [hdl] at hu
      subst hu
      exact ⟨hv, hv'⟩
    · have hu' : a.tmps[d]? = some u := by
        cases e : o.dst with
        | none => rw [e] at hu; exact hu
        | some d' =>
          rw [e] at hu
          simp only [Act.put] at hu
          rw [Array.getElem?_setIfInBounds_ne (fun e' => hd (by rw [e, e']))] at hu
          exact hu
      rcases M.tmps d u hu' with ⟨i, o', hi, hL, hdi, h1, h2⟩ | ⟨h1, h2⟩
      · left
        refine ⟨i, o', hi, hmore hL, hdi, h1.mono le, fun hiq => ?_⟩
        rcases hq with rfl | ⟨rfl, hc⟩
        · omega
        · exact (h2 hiq).mono (hc _)
      · right
        refine ⟨fun i o' hi hdi => ?_, h2⟩
        rw [getD_set hj]
        split
        · rename_i e; subst e
          rw [ho] at hi; cases hi
          exact absurd hdi hd
        · exact h1 i o' hi hdi
  · rw [← M.asize]; cases o.dst <;> simp [Act.put]
theorem Mid.sees {q m j : Nat} {L : Array Bool} {a : Act} {w : World} {R R' : Ren} {o : Oper} (g : Reg P cfg call caller lo ops F S r tr)
    (M : Mid ops F S r R0 w0 lo base q m L a w R) (ho : ops[j]? = some o) (hj : L.getD j false = false) (hr : ∀ e ∈ o.after, Region.binds .any e = true → L.getD e.on false = true)
    (h0 : R0.Le R') (hres : ∀ (i : Nat) o', i < j → ops[i]? = some o' → L.getD i false = true → ∀ v, VRel R (r i) v ∧ (i < q → VRel (R.cut (S (i + 1)).length) (r i) v) → VRel R' (r i) v) :
    ∀ d ∈ o.looksAt ops, ∀ x, (F j)[d]? = some x → ∃ v, a.tmps[d]? = some v ∧ VRel R' x v := by
  intro d hd x hx
  have hjn : j < ops.size := (Array.getElem?_eq_some_iff.1 ho).1
  have hdl : d < (F 0).length := by
    rw [← g.flen (j := j) (by omega)]; exact (List.getElem?_eq_some_iff.1 hx).1
  obtain ⟨v, hv⟩ : ∃ v, a.tmps[d]? = some v := ⟨_, Array.getElem?_eq_getElem (by rw [M.asize]; exact hdl)⟩
  refine ⟨v, hv, ?_⟩
  have later : ∀ (i : Nat) o', ops[i]? = some o' → o'.dst = some d → L.getD i false = true → i < j := by
    intro i o' hi hdi hL
    rcases Nat.lt_trichotomy i j with h | h | h
    · exact h
    · subst h; rw [hj] at hL; cases hL
    · exfalso
      rcases (g.pair ho hi h).2 with hb | hb
      · have := before_in M.closed hi (fun e he hb => M.closed i o' hi hL e he hb) hb
        rw [hj] at this; cases this
      · unfold besideA at hb
        simp only [Bool.and_eq_true] at hb
        exact (Oper.apart_spec hb.1).2.2 d hdi hd
  by_cases hex : ∃ i o', i < j ∧ ops[i]? = some o' ∧ o'.dst = some d
  · obtain ⟨i, o', hij, hi, hdi⟩ := hex
    have hLi : L.getD i false = true := by
      rcases (g.pair hi ho hij).2 with hb | hb
      · exact before_in M.closed ho hr hb
      · unfold besideA at hb
        simp only [Bool.and_eq_true] at hb
        exact absurd hd ((Oper.apart_spec hb.1).1 d hdi)
    rw [g.fnew hi hdi (by omega) hij] at hx
    cases hx
    rcases M.tmps d v hv with ⟨i', o'', hi', hL', hdi', h1⟩ | ⟨h1, _⟩
    · have : i' = i := by
        rcases Nat.lt_trichotomy i' i with h | h | h
        · rcases (g.pair hi' hi h).1 with h | h
          · rw [hdi'] at h; cases h
          · exact absurd (by rw [hdi', hdi]) h
        · exact h
        · rcases (g.pair hi hi' h).1 with h | h
          · rw [hdi] at h; cases h
          · exact absurd (by rw [hdi', hdi]) h
      subst this
      exact hres i' o' hij hi hLi v h1
    · rw [h1 i o' hi hdi] at hLi; cases hLi
  · have hx' : (F 0)[d]? = some x := by
      rw [← g.fold (j := j) (by omega) (fun i o' hij hi hdi => hex ⟨i, o', hij, hi, hdi⟩)]; exact hx
    rcases M.tmps d v hv with ⟨i', o'', hi', hL', hdi', h1⟩ | ⟨_, u, hu, hr⟩
    · exact absurd ⟨i', o'', later i' o'' hi' hdi' hL', hi', hdi'⟩ hex
    · rw [hx'] at hu; cases hu
      exact hr.mono h0
theorem sees_ev {j : Nat} {a : Act} {R' : Ren} {o : Oper} (hG : GlobOk cfg R') (hl : a.tmps.size = (F j).length) (h : ∀ d ∈ o.looksAt ops, ∀ x, (F j)[d]? = some x → ∃ v, a.tmps[d]? = some v ∧ VRel R' x v) :
    EvOk cfg R' (F j) a o.op.operands.toList ∧ ∀ b, wantedA ops (F j) o = some b → Region.wanted o (yielded ops a.tmps) = b := by
  constructor
  · intro x hx v he
    cases x with
    | tmp t =>
      simp only [evA, Option.some.injEq] at he
      subst he
      have hm : t ∈ o.looksAt ops := List.mem_append_left _ (List.mem_filterMap.2 ⟨.tmp t, hx, rfl⟩)
      cases e : (F j)[t]? with
      | none =>
        have h1 : (F j).length ≤ t := List.getElem?_eq_none_iff.1 e
        have h2 : a.tmps[t]? = none := Array.getElem?_eq_none (by omega)
        simp only [List.getD_eq_getElem?_getD, e, Option.getD_none, Act.eval, Array.getD_eq_getD_getElem?, h2, undefA, undef]
        exact .tuple .nil
      | some x =>
        obtain ⟨v, hv, hr⟩ := h t hm x e
        simp only [List.getD_eq_getElem?_getD, e, Option.getD_some, Act.eval, Array.getD_eq_getD_getElem?, hv]
        exact hr
    | const c => simp [evA] at he; exact absC_rel he
    | global g =>
      simp only [evA, Option.map_eq_some_iff] at he
      obtain ⟨cs, hc, rfl⟩ := he
      have := VRel.ro (R := R') 0 (hG g cs hc).1
      exact this
    | func f => simp [evA] at he; subst he; exact .func _ .nil .nil
  · intro b hb
    refine wanted_rel hl.symm (fun g want d hg hd x hx => ?_) hb
    obtain ⟨v, hv, hr⟩ := h d (List.mem_append_right _ (by simp [hg, hd])) x hx
    exact ⟨v, hv, R', hr⟩
end
end Go.Abs
namespace Go.Abs
open Go.RowKit (Below)
variable {P : Program}
section
variable {cfg : Cfg} {call : Caller} {caller lo base : Nat} {ops : Array Oper} {F : Nat → List AV} {S : Nat → Sto} {r : Nat → AV} {tr : List (Option Nat)} {R0 : Ren} {w0 : World}
structure Quiet (cfg : Cfg) (caller : Nat) (ops : Array Oper) (F : Nat → List AV) (S : Nat → Sto) (r : Nat → AV) (R0 : Ren) (w0 : World) (lo base : Nat) (L : Array Bool) (a : Act) (w : World) (R : Ren) : Prop where
  mid : Mid ops F S r R0 w0 lo base (firstOf cfg caller ops.toList) (firstOf cfg caller ops.toList) L a w R
  fam : ∀ k ≤ firstOf cfg caller ops.toList, Inv (R.cut (S k).length) (S k) w (S k).length w.heap.size
  notyet : ∀ (j : Nat) o, ops[j]? = some o → L.getD j false = true → classA cfg caller o.op = 0 ∨ j < firstOf cfg caller ops.toList
  free : ∀ j < firstOf cfg caller ops.toList, L.getD j false = false → ∀ b, (S j).length ≤ b → b < (S (j + 1)).length → R.box b = none ∧ R.rows b = none
structure Chain (cfg : Cfg) (caller : Nat) (ops : Array Oper) (F : Nat → List AV) (S : Nat → Sto) (r : Nat → AV) (R0 : Ren) (w0 : World) (lo base m : Nat) (L : Array Bool) (a : Act) (w : World) (R : Ren) : Prop where
  mid : Mid ops F S r R0 w0 lo base 0 m L a w R
  bound : firstOf cfg caller ops.toList ≤ m ∧ m ≤ ops.size
  done : ∀ (j : Nat) o, ops[j]? = some o → classA cfg caller o.op ≠ 0 → (L.getD j false = true ↔ j < m)
theorem cut_le_size : firstOf cfg caller ops.toList ≤ ops.size := by have := firstOf_le (cfg := cfg) (caller := caller) ops.toList; simpa using this
theorem Quiet.chain {L : Array Bool} {a : Act} {w : World} {R : Ren} (h : Quiet cfg caller ops F S r R0 w0 lo base L a w R)
    (hall : ∀ (i : Nat) o, i < firstOf cfg caller ops.toList → ops[i]? = some o → classA cfg caller o.op ≠ 0 → L.getD i false = true) : Chain cfg caller ops F S r R0 w0 lo base (firstOf cfg caller ops.toList) L a w R := by
  refine ⟨⟨h.mid.size, h.mid.closed, h.mid.step, fun d v hv => ?_, h.mid.asize, h.mid.defers⟩, ⟨Nat.le_refl _, cut_le_size⟩, fun j o ho hc => ⟨fun hL => ?_, fun hj => hall j o hj ho hc⟩⟩
  · rcases h.mid.tmps d v hv with ⟨j, o, h1, h2, h3, h4, _⟩ | h
    · exact .inl ⟨j, o, h1, h2, h3, h4, fun hh => by omega⟩
    · exact .inr h
  · rcases h.notyet j o ho hL with h | h
    · exact absurd h hc
    · exact h
theorem Reg.keepQ (g : Reg P cfg call caller lo ops F S r tr) {i k : Nat} (h : i ≤ k) (hk : k ≤ firstOf cfg caller ops.toList) {b : Nat} (hb : b < (S i).length) : (S k)[b]? = (S i)[b]? :=
  g.agree hb h (Nat.le_trans hk cut_le_size) (fun m o _ h2 ho hc => absurd hc (firstOf_lt (l := ops.toList) (i := m) (by simpa using ho) (by omega)))
theorem Reg.dom (_g : Reg P cfg call caller lo ops F S r tr) (I : Inv R0 (S 0) w0 lo base) {T : Nat} (h : (S 0).length ≤ T) : ∀ b, T ≤ b → R0.box b = none ∧ R0.rows b = none := fun b hb => I.dom b (by omega)
theorem Quiet.next {j : Nat} {L : Array Bool} {a : Act} {w w' : World} {R R1 : Ren} {o : Oper} {v : Value} (g : Reg P cfg call caller lo ops F S r tr) (hb : base ≤ w0.heap.size)
    (h : Quiet cfg caller ops F S r R0 w0 lo base L a w R) (ho : ops[j]? = some o) (hL : L.getD j false = false) (hr : ∀ e ∈ o.after, Region.binds .any e = true → L.getD e.on false = true) (hj : j < firstOf cfg caller ops.toList)
    (st : Step (R.cut (S j).length) (S j) w (S j).length w.heap.size R1 (S (j + 1)) w') (hv : VRel R1 (r j) v) :
    Quiet cfg caller ops F S r R0 w0 lo base (L.setIfInBounds j true) (a.put o.dst v) w' (R.join (S (j + 1)).length R1) := by
  have hn := cut_le_size (cfg := cfg) (caller := caller) (ops := ops)
  have hjs : j < L.size := by rw [h.mid.size]; omega
  have l : Lift R w (S j) R1 (S (j + 1)) w' := ⟨st, h.free j hj hL⟩
  have hbw : base ≤ w.heap.size := Nat.le_trans hb h.mid.step.below.size
  have agr : ∀ k, j + 1 ≤ k → k ≤ firstOf cfg caller ops.toList → (S (j + 1)).length ≤ (S k).length ∧ ∀ b, (S j).length ≤ b → b < (S (j + 1)).length → (S k)[b]? = (S (j + 1))[b]? := fun k h1 h2 =>
    ⟨g.len_le h1 (by omega), fun b _ hb => g.keepQ h1 h2 hb⟩
  have hst' := l.on (τ := S (firstOf cfg caller ops.toList)) h.mid.step hbw (g.len_le (by omega) (by omega)) (.inr (agr _ hj (Nat.le_refl _)))
  refine ⟨h.mid.next g ho hr l.le (.inr ⟨rfl, fun T => l.le_cut T⟩) hst' ?_ (fun _ => hv.mono (l.own_le (Nat.le_refl _))), ?_, ?_, ?_⟩
  · have := hv.mono (l.own_le (T := (S (j + 1)).length) (Nat.le_refl _))
    exact this.mono (Ren.cut_le _ _)
  · intro k hk
    have I := h.fam k hk
    have hsz := st.below.size
    have I' : Inv (R.cut (S k).length) (S k) w (S k).length 0 := ⟨I.im, I.dom, I.kindB, I.kindR, I.box, I.rows, I.apart, fun _ _ _ _ => Nat.zero_le _, I.openB, I.openR⟩
    have I2 := l.inv (τ := S k) (lo0 := (S k).length) (base0 := 0) I' (Nat.zero_le _) (by
      rcases Nat.lt_or_ge j k with hlt | hge
      · exact .inr (agr k hlt hk)
      · exact .inl (g.len_le hge (by omega)))
    exact I2.shut
  · intro i o' hi hLi
    rw [getD_set hjs] at hLi
    split at hLi
    · rename_i e; subst e; exact .inr hj
    · exact h.notyet i o' hi hLi
  · intro i hi hLi b h1 h2
    rw [getD_set hjs] at hLi
    split at hLi
    · cases hLi
    · rename_i e
      have hold : ¬ ((S j).length ≤ b ∧ b < (S (j + 1)).length) := by
        intro hh
        rcases Nat.lt_or_ge i j with hlt | hge
        · have := g.len_le (i := i + 1) (k := j) (by omega) (by omega); omega
        · have := g.len_le (i := j + 1) (k := i) (by omega) (by omega); omega
      rw [l.box_old hold, l.rows_old hold]
      exact h.free i hi hLi b h1 h2
theorem Quiet.look {j : Nat} {L : Array Bool} {a : Act} {w w' : World} {R R1 : Ren} {o : Oper} {v : Value} (g : Reg P cfg call caller lo ops F S r tr) (hb : base ≤ w0.heap.size)
    (h : Quiet cfg caller ops F S r R0 w0 lo base L a w R) (ho : ops[j]? = some o) (hr : ∀ e ∈ o.after, Region.binds .any e = true → L.getD e.on false = true) (hj : firstOf cfg caller ops.toList ≤ j) (hc : classA cfg caller o.op = 0)
    (st : Step (R.cut (S (firstOf cfg caller ops.toList)).length) (S (firstOf cfg caller ops.toList)) w (S (firstOf cfg caller ops.toList)).length w.heap.size R1 (S (firstOf cfg caller ops.toList)) w') (hv : VRel R1 (r j) v) :
    Quiet cfg caller ops F S r R0 w0 lo base (L.setIfInBounds j true) (a.put o.dst v) w' (R.join (S (firstOf cfg caller ops.toList)).length R1) := by
  have hn := cut_le_size (cfg := cfg) (caller := caller) (ops := ops)
  have hjs : j < L.size := by rw [h.mid.size]; exact (Array.getElem?_eq_some_iff.1 ho).1
  generalize hcut : firstOf cfg caller ops.toList = cut at *
  have l : Lift R w (S cut) R1 (S cut) w' := ⟨st, fun b h1 h2 => by omega⟩
  have hbw : base ≤ w.heap.size := Nat.le_trans hb h.mid.step.below.size
  have hmid := h.mid
  rw [hcut] at hmid
  have hst' := l.on (τ := S cut) hmid.step hbw (g.len_le (by omega) (by omega)) (.inl ⟨Nat.le_refl _, Nat.le_refl _⟩)
  refine ⟨by rw [hcut]; exact hmid.next g ho hr l.le (.inr ⟨rfl, fun T => l.le_cut T⟩) hst' ((hv.mono (l.own_le (T := (S cut).length) (Nat.le_refl _))).mono (Ren.cut_le _ _)) (fun hh => by omega), ?_, ?_, ?_⟩
  · intro k hk
    have I := h.fam k hk
    rw [hcut] at hk
    have I' : Inv (R.cut (S k).length) (S k) w (S k).length 0 := ⟨I.im, I.dom, I.kindB, I.kindR, I.box, I.rows, I.apart, fun _ _ _ _ => Nat.zero_le _, I.openB, I.openR⟩
    have I2 := l.inv (τ := S k) (lo0 := (S k).length) (base0 := 0) I' (Nat.zero_le _) (.inl (g.len_le hk (by omega)))
    exact I2.shut
  · intro i o' hi hLi
    rw [getD_set hjs] at hLi
    split at hLi
    · rename_i e; subst e
      rw [ho] at hi; cases hi
      exact .inl hc
    · exact h.notyet i o' hi hLi
  · intro i hi hLi b h1 h2
    rw [getD_set hjs] at hLi
    split at hLi
    · cases hLi
    · rw [l.box_old (by omega), l.rows_old (by omega)]
      exact h.free i hi hLi b h1 h2
theorem Chain.look {j m : Nat} {L : Array Bool} {a : Act} {w w' : World} {R R1 : Ren} {o : Oper} {v : Value} (g : Reg P cfg call caller lo ops F S r tr) (hb : base ≤ w0.heap.size)
    (h : Chain cfg caller ops F S r R0 w0 lo base m L a w R) (ho : ops[j]? = some o) (hr : ∀ e ∈ o.after, Region.binds .any e = true → L.getD e.on false = true) (hc : classA cfg caller o.op = 0)
    (st : Step (R.cut (S m).length) (S m) w (S m).length w.heap.size R1 (S m) w') (hv : VRel R1 (r j) v) :
    Chain cfg caller ops F S r R0 w0 lo base m (L.setIfInBounds j true) (a.put o.dst v) w' (R.join (S m).length R1) := by
  have hjs : j < L.size := by rw [h.mid.size]; exact (Array.getElem?_eq_some_iff.1 ho).1
  have l : Lift R w (S m) R1 (S m) w' := ⟨st, fun b h1 h2 => by omega⟩
  have hbw : base ≤ w.heap.size := Nat.le_trans hb h.mid.step.below.size
  have hst' := l.on (τ := S m) h.mid.step hbw (g.len_le (by omega) h.bound.2) (.inl ⟨Nat.le_refl _, Nat.le_refl _⟩)
  refine ⟨h.mid.next g ho hr l.le (.inl rfl) hst' ((hv.mono (l.own_le (T := (S m).length) (Nat.le_refl _))).mono (Ren.cut_le _ _)) (fun hh => by omega), h.bound, ?_⟩
  intro i o' hi hci
  rw [getD_set hjs]
  split
  · rename_i e; subst e
    rw [ho] at hi; cases hi
    exact absurd hc hci
  · exact h.done i o' hi hci
theorem Chain.next {j m : Nat} {L : Array Bool} {a : Act} {w w' : World} {R R1 : Ren} {o : Oper} {v : Value} (g : Reg P cfg call caller lo ops F S r tr)
    (h : Chain cfg caller ops F S r R0 w0 lo base m L a w R) (ho : ops[j]? = some o) (hL : L.getD j false = false) (hr : ∀ e ∈ o.after, Region.binds .any e = true → L.getD e.on false = true) (hc : classA cfg caller o.op ≠ 0)
    (hbet : ∀ (i : Nat) o', m ≤ i → i < j → ops[i]? = some o' → classA cfg caller o'.op = 0)
    (st : Step R (S m) w lo base R1 (S (j + 1)) w') (hv : VRel R1 (r j) v) :
    Chain cfg caller ops F S r R0 w0 lo base (j + 1) (L.setIfInBounds j true) (a.put o.dst v) w' R1 := by
  have hjn : j < ops.size := (Array.getElem?_eq_some_iff.1 ho).1
  have hjs : j < L.size := by rw [h.mid.size]; exact hjn
  have hmj : m ≤ j := by
    rcases Nat.lt_or_ge j m with hlt | hge
    · rw [(h.done j o ho hc).2 hlt] at hL; cases hL
    · exact hge
  refine ⟨h.mid.next g ho hr st.le (.inl rfl) (h.mid.step.trans st) hv (fun hh => by omega), ⟨by have := h.bound.1; omega, by omega⟩, ?_⟩
  intro i o' hi hci
  rw [getD_set hjs]
  split
  · rename_i e; subst e; exact ⟨fun _ => by omega, fun _ => rfl⟩
  · rename_i e
    rw [h.done i o' hi hci]
    constructor
    · intro hh; omega
    · intro hh
      rcases Nat.lt_or_ge i m with hlt | hge
      · exact hlt
      · exact absurd (hbet i o' hge (by omega) hi) hci
end
end Go.Abs
namespace Go.Abs
open Go.RowKit (Below)
variable {P : Program}
section
variable {cfg : Cfg} {call : Caller} {caller lo base : Nat} {ops : Array Oper} {F : Nat → List AV} {S : Nat → Sto} {r : Nat → AV} {tr : List (Option Nat)} {R0 : Ren} {w0 : World}
theorem VRel.placed {R : Ren} {x : AV} {v : Value} {b : Nat} (h : VRel R x v) (hb : blkP (some x) = some b ∨ blkS (some x) = some b) : R.box b ≠ none ∨ R.rows b ≠ none := by
  cases h <;> simp [blkP, blkS] at hb
  case ptr e => subst hb; left; simp [e]
  case eptr e => subst hb; right; simp [e]
  case eptrOld e _ => subst hb; right; simp [e]
  case sl e _ _ => subst hb; right; simp [e]
  case slOld e _ => subst hb; right; simp [e]
theorem look_operand {fr : List AV} {o : Op} {b : Nat} (h0 : classA cfg caller o = 0) (h : lookA cfg fr o = some b) : ∃ x ∈ o.operands.toList, ∃ v, evA cfg fr x = some v ∧ (blkP (some v) = some b ∨ blkS (some v) = some b) := by
  cases o <;> simp only [lookA] at h <;> try (cases h; done)
  case load t a =>
    cases e : evA cfg fr a with
    | none => rw [e] at h; cases h
    | some v => exact ⟨a, by simp [Op.operands], v, e, .inl (by rw [e] at h; exact h)⟩
  case store => simp [classA] at h0
  case slice t x l hh m =>
    cases e : evA cfg fr x with
    | none => rw [e] at h; cases h
    | some v => exact ⟨x, by simp [Op.operands], v, e, .inr (by rw [e] at h; exact h)⟩
  case indexAddr t x i =>
    cases e : evA cfg fr x with
    | none => rw [e] at h; cases h
    | some v => exact ⟨x, by simp [Op.operands], v, e, .inr (by rw [e] at h; exact h)⟩
theorem look_lt {fr : List AV} {o : Op} {b lo' : Nat} {σ σ' : Sto} {r : AV} (h0 : classA cfg caller o = 0) (h : lookA cfg fr o = some b) (hop : opA P cfg call caller lo' fr σ o = some (r, σ')) : b < σ.length := by
  apply Decidable.byContradiction
  intro hn
  have hnone : σ[b]? = none := List.getElem?_eq_none (by omega)
  cases o <;> simp only [lookA] at h <;> try (cases h; done)
  case load t a =>
    simp only [opA, opPick, opAlloc, opBox, opBuild, opBuildSlice, op1, op2, opStore, opMkIface, opMakeFunc, opMakeSlice, opSlice, opExtract, sameA] at hop
    cases e : evA cfg fr a with
    | none => rw [e] at h; cases h
    | some v =>
      rw [e] at h hop
      simp only [Option.map_eq_some_iff] at hop
      obtain ⟨u, hu, _⟩ := hop
      cases v <;> simp only [blkP, Option.some.injEq] at h <;> first | cases h; done | skip
      all_goals (subst h; simp [loadA, placeA, hnone] at hu)
  case store => simp [classA] at h0
  case slice t x l hh m =>
    simp only [opA, opPick, opAlloc, opBox, opBuild, opBuildSlice, op1, op2, opStore, opMkIface, opMakeFunc, opMakeSlice, opSlice, opExtract, sameA] at hop
    split at hop
    · rename_i v l' h' m' hx hl hh hm
      rw [hx] at h
      simp only [Option.map_eq_some_iff] at hop
      obtain ⟨u, hu, _⟩ := hop
      cases v <;> simp only [blkS, Option.some.injEq] at h <;> first | cases h; done | skip
      all_goals (
        subst h
        cases hd : P.underlying t with
        | none => simp [sliceA, hd] at hu
        | some d => cases d <;> simp [sliceA, hd, hnone] at hu)
    · cases hop
  case indexAddr t x i =>
    simp only [opA, opPick, opAlloc, opBox, opBuild, opBuildSlice, op1, op2, opStore, opMkIface, opMakeFunc, opMakeSlice, opSlice, opExtract, sameA] at hop
    split at hop
    · rename_i v ix hx hi
      rw [hx] at h
      simp only [Option.map_eq_some_iff] at hop
      obtain ⟨u, hu, _⟩ := hop
      cases v <;> simp only [blkS, Option.some.injEq] at h <;> first | cases h; done | skip
      all_goals (
        subst h
        simp only [indexAddrA] at hu
        repeat' split at hu
        all_goals first
          | (cases hu; done)
          | (simp_all; done)
          | (rename_i elem _ _; cases hs : szOf P elem <;> simp [hs, moveA] at hu))
    · cases hop
theorem Reg.other (g : Reg P cfg call caller lo ops F S r tr) {j m b : Nat} {o : Oper} (ho : ops[j]? = some o) (hc : classA cfg caller o.op = 0) (hm : m ≤ ops.size) {L : Array Bool} (hL : L.getD j false = false) (hcl : Closed ops L)
    (hr : ∀ e ∈ o.after, Region.binds .any e = true → L.getD e.on false = true)
    (hbefore : ∀ (i : Nat) o', i < m → ops[i]? = some o' → classA cfg caller o'.op = 2 → L.getD i false = true)
    (hafter : ∀ (i : Nat) o', m ≤ i → ops[i]? = some o' → classA cfg caller o'.op = 2 → L.getD i false = false)
    (ht : tr.getD j none = some b) (hl : mayLook o.op = true) (hbm : b < (S m).length) (hbj : b < (S j).length) : (S m)[b]? = (S j)[b]? := by
  have hjn : j < ops.size := (Array.getElem?_eq_some_iff.1 ho).1
  rcases Nat.le_total m j with h | h
  · refine (g.agree hbm h (by omega) (fun i o' h1 h2 hi hci => ?_)).symm
    have hn : ((masks ops.toList []).getD j 0).testBit i = false := by
      cases e : ((masks ops.toList []).getD j 0).testBit i with
      | false => rfl
      | true =>
        have := before_in hcl ho hr e
        rw [hafter i o' h1 hi hci] at this; cases this
    exact (g.apart hi ho h2 hn).2 hl hci b ht
  · refine g.agree hbj h hm (fun i o' h1 h2 hi hci => ?_)
    have hij : j ≠ i := by
      intro e; subst e
      rw [ho] at hi; cases hi
      rw [hc] at hci; cases hci
    have hLi := hbefore i o' h2 hi hci
    have hn : ((masks ops.toList []).getD i 0).testBit j = false := by
      cases e : ((masks ops.toList []).getD i 0).testBit j with
      | false => rfl
      | true =>
        have := before_in hcl hi (fun e he hb => hcl i o' hi hLi e he hb) e
        rw [hL] at this; cases this
    exact (g.apart ho hi (by omega) hn).1 hl hci b ht
theorem all_listed {L : Array Bool} (hs : L.size = ops.size) (g : Reg P cfg call caller lo ops F S r tr) (h : Region.ready .any ops L = []) : ∀ {j : Nat}, j < ops.size → L.getD j false = true := by
  intro j
  induction j using Nat.strongRecOn with
  | ind j ih =>
    intro hj
    apply Decidable.byContradiction
    intro hn
    have ho : ops[j]? = some ops[j] := Array.getElem?_eq_getElem hj
    have hm : j ∈ Region.ready .any ops L := by
      rw [mem_ready]
      refine ⟨?_, _, ho, fun e he hb => ih e.on (g.edges ho e he hb) (by have := g.edges ho e he hb; omega)⟩
      have hjl : j < L.size := by omega
      simp [hjl] at hn ⊢
      exact hn
    rw [h] at hm; cases hm
theorem cnt_set {L : Array Bool} {j : Nat} (hj : j < L.size) (h : L.getD j true = false) : (L.setIfInBounds j true).toList.count false < L.toList.count false := by
  have he : L[j] = false := by simpa [hj] using h
  rw [Array.toList_setIfInBounds, List.count_set (by simpa using hj)]
  have h1 : L.toList[j]'(by simpa using hj) = false := by simpa using he
  have h2 : 0 < L.toList.count false := by rw [List.count_pos_iff]; rw [← h1]; exact List.getElem_mem _
  have e : (L.toList[j]'(by simpa using hj) == false) = true := by rw [h1]; rfl
  rw [if_pos e, if_neg (by decide : ¬ ((true == false) = true))]
  omega
variable {Q : Exit → Act → World → Prop}
theorem any_ok (hcfg : CfgOk P cfg) (hcall : CallOk P cfg call) (hbody : BodyOk P call) (g : Reg P cfg call caller lo ops F S r tr) (I0 : Inv R0 (S 0) w0 lo base) (hb : base ≤ w0.heap.size) (hg : GlobOk cfg R0)
    (hQ : ∀ a' w' R', Step R0 (S 0) w0 lo base R' (S ops.size) w' → VRels R' (F ops.size) a'.tmps.toList → a'.defers = [] → a'.tmps.size = (F 0).length → Q .normal a' w') :
    ∀ (fuel : Nat) (L : Array Bool) (a : Act) (w : World) (R : Ren), L.toList.count false ≤ fuel → (Quiet cfg caller ops F S r R0 w0 lo base L a w R ∨ ∃ m, Chain cfg caller ops F S r R0 w0 lo base m L a w R) → wpAny P .any ops Q fuel L a w := by
  have hn := cut_le_size (cfg := cfg) (caller := caller) (ops := ops)
  have fin : ∀ (L : Array Bool) (a : Act) (w : World) (R : Ren), (Quiet cfg caller ops F S r R0 w0 lo base L a w R ∨ ∃ m, Chain cfg caller ops F S r R0 w0 lo base m L a w R) → Region.ready .any ops L = [] → Q .normal a w := by
    intro L a w R hst hre
    have key : ∀ m, Chain cfg caller ops F S r R0 w0 lo base m L a w R → Q .normal a w := by
      intro m h
      have hall := fun j (hj : j < ops.size) => all_listed h.mid.size g hre hj
      have hS : ∀ k, m ≤ k → k ≤ ops.size → S k = S m := by
        intro k
        induction k with
        | zero => intro h1 _; have : m = 0 := by omega
                  subst this; rfl
        | succ k ih =>
          intro h1 h2
          by_cases e : m = k + 1
          · subst e; rfl
          · rw [← ih (by omega) (by omega)]
            have ho : ops[k]? = some ops[k] := Array.getElem?_eq_getElem (by omega)
            have hc : classA cfg caller ops[k].op = 0 := by
              apply Decidable.byContradiction
              intro hc
              have := (h.done k _ ho hc).1 (hall k (by omega))
              omega
            obtain ⟨_, h3 | h3⟩ := g.steps k _ ho
            · exact (look_same (σ' := S k) hc h3.2.1 (fun _ _ => rfl)).1
            · exact h3.2.2.1
      have hst := h.mid.step
      rw [← hS ops.size h.bound.2 (Nat.le_refl _)] at hst
      refine hQ a w R hst (VRels.of_get (by rw [g.flen (Nat.le_refl _)]; simp [h.mid.asize]) fun d x v hx hv => ?_) h.mid.defers h.mid.asize
      have hv' : a.tmps[d]? = some v := by simpa using hv
      rcases h.mid.tmps d v hv' with ⟨j, o, h1, h2, h3, h4, _⟩ | ⟨h1, u, hu, hr⟩
      · have hjn : j < ops.size := (Array.getElem?_eq_some_iff.1 h1).1
        rw [g.fnew h1 h3 (Nat.le_refl _) hjn] at hx
        cases hx; exact h4
      · rw [g.fold (Nat.le_refl _) (fun i o hi ho hd => by have := h1 i o ho hd; rw [hall i hi] at this; cases this), hu] at hx
        cases hx; exact hr.mono h.mid.step.le
    rcases hst with h | ⟨m, h⟩
    · exact key _ (h.chain fun i o hi ho _ => all_listed h.mid.size g hre (by omega))
    · exact key m h
  intro fuel
  induction fuel with
  | zero =>
    intro L a w R hc hst
    have hsz : L.size = ops.size := by rcases hst with h | ⟨m, h⟩ <;> exact h.mid.size
    have hre : Region.ready .any ops L = [] := by
      rw [List.eq_nil_iff_forall_not_mem]
      intro j hj
      obtain ⟨h1, o, ho, _⟩ := mem_ready.1 hj
      have hjl : j < L.size := by rw [hsz]; exact (Array.getElem?_eq_some_iff.1 ho).1
      have := cnt_set hjl h1
      omega
    exact ⟨hre, fin L a w R hst hre⟩
  | succ fuel ih =>
    intro L a w R hc hst
    refine ⟨fin L a w R hst, fun j hj => ?_⟩
    obtain ⟨h1, o, ho, hr⟩ := mem_ready.1 hj
    have hjn : j < ops.size := (Array.getElem?_eq_some_iff.1 ho).1
    have hsz : L.size = ops.size := by rcases hst with h | ⟨m, h⟩ <;> exact h.mid.size
    have hjl : j < L.size := by omega
    have hL : L.getD j false = false := by simpa [hjl] using h1
    have hcnt : (L.setIfInBounds j true).toList.count false ≤ fuel := by have := cnt_set hjl h1; omega
    unfold wpOp
    simp only [ho]
    have close : ∀ (R' : Ren) (σa σb : Sto) (lo' base' : Nat), EvOk cfg R' (F j) a o.op.operands.toList → (∀ b, wantedA ops (F j) o = some b → Region.wanted o (yielded ops a.tmps) = b) → Inv R' σa w lo' base' → base' ≤ w.heap.size → lo' ≤ σa.length → GlobOk cfg R' →
        (wantedA ops (F j) o = some true ∧ opA P cfg call caller lo' (F j) σa o.op = some (r j, σb) ∨ wantedA ops (F j) o = some false ∧ r j = undefA ∧ σb = σa) →
        (∀ v w' R1, Step R' σa w lo' base' R1 σb w' → VRel R1 (r j) v → ∃ R2, (Quiet cfg caller ops F S r R0 w0 lo base (L.setIfInBounds j true) (a.put o.dst v) w' R2 ∨ ∃ m, Chain cfg caller ops F S r R0 w0 lo base m (L.setIfInBounds j true) (a.put o.dst v) w' R2)) →
        (if Region.wanted o (yielded ops a.tmps) = true then o.wp P a w (wpAny P .any ops Q fuel (L.setIfInBounds j true)) Q ∨ (o.asks P a w ∧ LetsOut Q) else wpAny P .any ops Q fuel (L.setIfInBounds j true) (a.put o.dst undef) w) := by
      intro R' σa σb lo' base' hev hwr I hb' hlo' hg' hop k
      rcases hop with ⟨hw, hop⟩ | ⟨hw, hru, rfl⟩
      · rw [if_pos (hwr _ hw)]
        refine .inl (op_ok hcfg hcall hbody hop I hb' hlo' hg' hev _ _ fun v w' R1 hs hrel => ?_)
        obtain ⟨R2, hst2⟩ := k v w' R1 hs hrel
        exact ih _ _ _ R2 hcnt hst2
      · rw [if_neg (by rw [hwr _ hw]; simp)]
        obtain ⟨R2, hst2⟩ := k undef w R' (.refl I) (by rw [hru]; exact .tuple .nil)
        exact ih _ _ _ R2 hcnt hst2
    have goChain : ∀ m, Chain cfg caller ops F S r R0 w0 lo base m L a w R → (if Region.wanted o (yielded ops a.tmps) = true then o.wp P a w (wpAny P .any ops Q fuel (L.setIfInBounds j true)) Q ∨ (o.asks P a w ∧ LetsOut Q) else wpAny P .any ops Q fuel (L.setIfInBounds j true) (a.put o.dst undef) w) := by
      intro m h
      have hgR : GlobOk cfg R := hg.mono h.mid.step.le
      have hsees := h.mid.sees g ho hL hr h.mid.step.le (fun i o' _ _ _ v hv => hv.1)
      obtain ⟨hev, hwr⟩ := sees_ev hgR (by rw [h.mid.asize]; exact (g.flen (by omega)).symm) hsees
      have Im := h.mid.step.inv
      have hbw : base ≤ w.heap.size := Nat.le_trans hb h.mid.step.below.size
      have hid : R.cut (S m).length = R := Ren.cut_id Im.dom
      obtain ⟨_, hstep⟩ := g.steps j o ho
      by_cases hc0 : classA cfg caller o.op = 0
      · refine close R (S m) (S m) (S m).length w.heap.size hev hwr Im.shut (Nat.le_refl _) (Nat.le_refl _) hgR ?_ fun v w' R1 hs hrel => ?_
        · rcases hstep with ⟨hw, hop, ht⟩ | ⟨hw, hru, _, _⟩
          · refine .inl ⟨hw, (look_same hc0 hop fun b hlk => ?_).2 _⟩
            obtain ⟨x, hx, v, hv, hbv⟩ := look_operand hc0 hlk
            have hp := (hev x hx v hv).placed hbv
            have hbm : b < (S m).length := by
              rcases Nat.lt_or_ge b (S m).length with h' | h'
              · exact h'
              · obtain ⟨d1, d2⟩ := Im.dom b h'
                rcases hp with hp | hp
                · exact absurd d1 hp
                · exact absurd d2 hp
            refine g.other ho hc0 h.bound.2 hL h.mid.closed hr (fun i o' hi ho' hc' => (h.done i o' ho' (by omega)).2 hi) (fun i o' hi ho' hc' => ?_) (by rw [ht]; exact hlk) ?_ hbm (look_lt hc0 hlk hop)
            · cases e : L.getD i false with
              | false => rfl
              | true => have := (h.done i o' ho' (by omega)).1 e; omega
            · rcases look_may (cfg := cfg) (caller := caller) hlk with h' | h'
              · exact h'
              · rw [hc0] at h'; cases h'
          · exact .inr ⟨hw, hru, rfl⟩
        · exact ⟨_, .inr ⟨m, h.look g hb ho hr hc0 (by rw [hid]; exact hs) hrel⟩⟩
      · -- one of the others: nothing between
        have hmj : m ≤ j := by
          rcases Nat.lt_or_ge j m with hlt | hge
          · rw [(h.done j o ho hc0).2 hlt] at hL; cases hL
          · exact hge
        have hbet : ∀ (i : Nat) o', m ≤ i → i < j → ops[i]? = some o' → classA cfg caller o'.op = 0 := by
          intro i o' h2 h3 ho'
          apply Decidable.byContradiction
          intro hc'
          rcases (g.pair ho' ho h3).2 with hb' | hb'
          · have := (h.done i o' ho' hc').1 (before_in h.mid.closed ho hr hb')
            omega
          · unfold besideA at hb'
            simp only [Bool.and_eq_true, Bool.or_eq_true, decide_eq_true_eq, beq_iff_eq] at hb'
            have := h.bound.1
            rcases hb'.2 with (h4 | h4) | h4
            · omega
            · exact hc' h4
            · exact hc0 h4
        have hS : ∀ k, m ≤ k → k ≤ j → S k = S m := by
          intro k
          induction k with
          | zero => intro h1 _; have : m = 0 := by omega
                    subst this; rfl
          | succ k ih' =>
            intro h2 h3
            by_cases e : m = k + 1
            · subst e; rfl
            · rw [← ih' (by omega) (by omega)]
              have hok : ops[k]? = some ops[k] := Array.getElem?_eq_getElem (by omega)
              obtain ⟨_, h4 | h4⟩ := g.steps k _ hok
              · exact (look_same (σ' := S k) (hbet k _ (by omega) (by omega) hok) h4.2.1 (fun _ _ => rfl)).1
              · exact h4.2.2.1
        have hSj := hS j hmj (Nat.le_refl _)
        by_cases hc2 : classA cfg caller o.op = 2
        · rw [if_pos hc2, hSj] at hstep
          refine close R (S m) (S (j + 1)) lo base hev hwr Im hbw (g.lo_le h.bound.2) hgR ?_ fun v w' R1 hs hrel => ⟨_, .inr ⟨_, h.next g ho hL hr hc0 hbet hs hrel⟩⟩
          rcases hstep with ⟨hw, hop, _⟩ | ⟨hw, hru, hs, _⟩
          · exact .inl ⟨hw, hop⟩
          · exact .inr ⟨hw, hru, hs⟩
        · rw [if_neg hc2, hSj] at hstep
          refine close R (S m) (S (j + 1)) (S m).length w.heap.size hev hwr Im.shut (Nat.le_refl _) (Nat.le_refl _) hgR ?_ fun v w' R1 hs hrel => ⟨_, .inr ⟨_, h.next g ho hL hr hc0 hbet (hs.widen Im hbw (g.lo_le h.bound.2)) hrel⟩⟩
          rcases hstep with ⟨hw, hop, _⟩ | ⟨hw, hru, hs, _⟩
          · exact .inl ⟨hw, hop⟩
          · exact .inr ⟨hw, hru, hs⟩
    rcases hst with h | ⟨m, h⟩
    · -- the quiet ones
      have hbw : base ≤ w.heap.size := Nat.le_trans hb h.mid.step.below.size
      obtain ⟨_, hstep⟩ := g.steps j o ho
      by_cases hjc : j < firstOf cfg caller ops.toList
      · have h0 : R0.Le (R.cut (S j).length) := Ren.le_cut h.mid.step.le (g.dom I0 (g.len_le (by omega) (by omega)))
        have hgR : GlobOk cfg (R.cut (S j).length) := hg.mono h0
        have hsees := h.mid.sees g ho hL hr h0 (fun i o' hij hi hLi v hv => (hv.2 (by omega)).mono (R.cut_le_cut (g.len_le (by omega) (by omega))))
        obtain ⟨hev, hwr⟩ := sees_ev hgR (by rw [h.mid.asize]; exact (g.flen (by omega)).symm) hsees
        have hc2 : classA cfg caller o.op ≠ 2 := firstOf_lt (l := ops.toList) (i := j) (by simpa using ho) hjc
        rw [if_neg hc2] at hstep
        refine close _ (S j) (S (j + 1)) (S j).length w.heap.size hev hwr (h.fam j (by omega)) (Nat.le_refl _) (Nat.le_refl _) hgR ?_ fun v w' R1 hs hrel => ⟨_, .inl (h.next g hb ho hL hr hjc hs hrel)⟩
        rcases hstep with ⟨hw, hop, _⟩ | ⟨hw, hru, hs, _⟩
        · exact .inl ⟨hw, hop⟩
        · exact .inr ⟨hw, hru, hs⟩
      · by_cases hc0 : classA cfg caller o.op = 0
        · have hgR : GlobOk cfg R := hg.mono h.mid.step.le
          have Im := h.mid.step.inv
          have hid : R.cut (S (firstOf cfg caller ops.toList)).length = R := Ren.cut_id Im.dom
          have hsees := h.mid.sees g ho hL hr h.mid.step.le (fun i o' _ _ _ v hv => hv.1)
          obtain ⟨hev, hwr⟩ := sees_ev hgR (by rw [h.mid.asize]; exact (g.flen (by omega)).symm) hsees
          refine close R (S (firstOf cfg caller ops.toList)) (S (firstOf cfg caller ops.toList)) (S (firstOf cfg caller ops.toList)).length w.heap.size hev hwr Im.shut (Nat.le_refl _) (Nat.le_refl _) hgR ?_ fun v w' R1 hs hrel => ?_
          · rcases hstep with ⟨hw, hop, ht⟩ | ⟨hw, hru, _, _⟩
            · refine .inl ⟨hw, (look_same hc0 hop fun b hlk => ?_).2 _⟩
              obtain ⟨x, hx, v, hv, hbv⟩ := look_operand hc0 hlk
              have hp := (hev x hx v hv).placed hbv
              have hbm : b < (S (firstOf cfg caller ops.toList)).length := by
                rcases Nat.lt_or_ge b (S (firstOf cfg caller ops.toList)).length with h' | h'
                · exact h'
                · obtain ⟨d1, d2⟩ := Im.dom b h'
                  rcases hp with hp | hp
                  · exact absurd d1 hp
                  · exact absurd d2 hp
              refine g.other ho hc0 hn hL h.mid.closed hr (fun i o' hi ho' hc' => absurd hc' (firstOf_lt (l := ops.toList) (i := i) (by simpa using ho') hi)) (fun i o' hi ho' hc' => ?_) (by rw [ht]; exact hlk) ?_ hbm (look_lt hc0 hlk hop)
              · cases e : L.getD i false with
                | false => rfl
                | true =>
                  rcases h.notyet i o' ho' e with h' | h'
                  · rw [hc'] at h'; cases h'
                  · omega
              · rcases look_may (cfg := cfg) (caller := caller) hlk with h' | h'
                · exact h'
                · rw [hc0] at h'; cases h'
            · exact .inr ⟨hw, hru, rfl⟩
          · exact ⟨_, .inl (h.look g hb ho hr (by omega) hc0 (by rw [hid]; exact hs) hrel)⟩
        · -- the first of the others: all the quiet ones have come up
          refine goChain _ (h.chain fun i o' hi ho' hc' => ?_)
          rcases (g.pair ho' ho (by omega)).2 with hb' | hb'
          · exact before_in h.mid.closed ho hr hb'
          · unfold besideA at hb'
            simp only [Bool.and_eq_true, Bool.or_eq_true, decide_eq_true_eq, beq_iff_eq] at hb'
            rcases hb'.2 with (h4 | h4) | h4
            · exact absurd h4 hjc
            · exact absurd h4 hc'
            · exact absurd h4 hc0
    · exact goChain m h
theorem region_ok {id : Nat} {R : Ren} {σ σ' : Sto} {w : World} {a : Act} {fr fr' : List AV} (hm : P.follows .mixedOrders = true) (hcfg : CfgOk P cfg) (hcall : CallOk P cfg call) (hbody : BodyOk P call) (hkeep : CallKeeps call) (h : regionA P cfg call caller lo ops fr σ = some (fr', σ'))
    (I : Inv R σ w lo base) (hb : base ≤ w.heap.size) (hlo : lo ≤ σ.length) (hg : GlobOk cfg R) (hf : VRels R fr a.tmps.toList) (hd : a.defers = [])
    (k : ∀ a' w' R', Step R σ w lo base R' σ' w' → VRels R' fr' a'.tmps.toList → a'.defers = [] → a'.tmps.size = a.tmps.size → Q .normal a' w') : (Code.region id ops true).wp P Q a w := by
  unfold regionA at h
  split at h
  · rename_i hok
    simp only [Bool.and_eq_true, Array.all_eq_true_iff_forall_mem] at hok
    split at h
    · rename_i tr fr1 σ1 hdr
      split at h
      · rename_i hpairs
        cases h
        obtain ⟨F, S, r, h1, h2, h3, h4, _, h6⟩ := drawA_trace hdr
        subst h1 h2
        have hsz : a.tmps.size = (F 0).length := by have := hf.length; simp at this; omega
        have g : Reg P cfg call caller lo ops F S r tr := ⟨fun i o ho => by
            have := h6 i o (by simpa using ho)
            simpa using this, hok.1, hpairs, fun i o ho d hd => by
            have := hok.2 o (Array.mem_of_getElem? ho)
            rw [hd] at this
            simpa using this, hkeep, hlo⟩
        have I' : Inv R (S 0) { w with drawn := w.drawn + 1 } lo base := ⟨I.im, I.dom, I.kindB, I.kindR, I.box, I.rows, I.apart, I.base, I.openB, I.openR⟩
        have hn := cut_le_size (cfg := cfg) (caller := caller) (ops := ops)
        have hlist : ∀ j, (Array.replicate ops.size false).getD j false = false := fun j => by
          simp only [Array.getD_eq_getD_getElem?, Array.getElem?_replicate]; split <;> rfl
        have hext : ∀ k, k ≤ firstOf cfg caller ops.toList → ∀ b, b < (S 0).length → (S k)[b]? = (S 0)[b]? := fun k hk b hb' => g.keepQ (Nat.zero_le _) hk hb'
        have invAt : ∀ k, k ≤ firstOf cfg caller ops.toList → Inv R (S k) { w with drawn := w.drawn + 1 } lo base := by
          intro k hk
          have hlen := g.len_le (Nat.zero_le k) (by omega)
          have lt : ∀ {b B}, At R b B → b < (S 0).length := fun hA => I'.at_lt hA
          refine ⟨I'.im, fun b hb' => I'.dom b (by omega), ?_, ?_, ?_, ?_, I'.apart, I'.base, ?_, ?_⟩
          · intro b cs fz hσ
            cases e : R.rows b with
            | none => rfl
            | some x => rw [hext k hk b (lt (.inr ⟨x, e, rfl⟩))] at hσ; rw [I'.kindB b cs fz hσ] at e; cases e
          · intro b es g' sz fz hσ
            cases e : R.box b with
            | none => rfl
            | some x => rw [hext k hk b (lt (.inl e))] at hσ; rw [I'.kindR b es g' sz fz hσ] at e; cases e
          · intro b cs fz hσ B e
            rw [hext k hk b (lt (.inl e))] at hσ
            exact I'.box b cs fz hσ B e
          · intro b es g' sz fz hσ x e
            rw [hext k hk b (lt (.inr ⟨x, e, rfl⟩))] at hσ
            exact I'.rows b es g' sz fz hσ x e
          · intro b cs h1 hσ B e
            rw [hext k hk b (lt (.inl e))] at hσ
            exact I'.openB b cs h1 hσ B e
          · intro b es g' sz h1 hσ x e
            rw [hext k hk b (lt (.inr ⟨x, e, rfl⟩))] at hσ
            exact I'.openR b es g' sz h1 hσ x e
        refine wp_region_any hm (any_ok (R0 := R) (w0 := { w with drawn := w.drawn + 1 }) (base := base) hcfg hcall hbody g I' hb hg ?_ ops.size _ a _ R (by simp) (.inl ⟨⟨by simp, ?_, ?_, ?_, hsz, hd⟩, ?_, ?_, ?_⟩))
        · intro a' w' R' hst hf' hd' hs'
          have e1 : F ops.size = fr' := by rw [← h3]; simp
          have e2 : S ops.size = σ' := by rw [← h4]; simp
          rw [e1] at hf'
          rw [e2] at hst
          refine k a' w' R' ⟨hst.le, hst.inv, ⟨hst.below.os, hst.below.tape, hst.below.output, hst.below.size, hst.below.block⟩, hst.imNew, hst.keep, hst.len, hst.boxOld, hst.rowsOld, hst.frame, hst.fresh, hst.imAt⟩ hf' hd' (by omega)
        · intro j o _ hL
          rw [hlist] at hL; cases hL
        · exact ⟨.refl R, invAt _ (Nat.le_refl _), .refl _ _, fun _ _ _ h h' => absurd h (by simp [h']), fun b hb' => hext _ (Nat.le_refl _) b (by have := g.lo; omega), g.len_le (Nat.zero_le _) hn, fun _ _ => rfl, fun _ _ _ => rfl, fun _ _ _ => rfl, fun _ _ _ h => .inl h, fun _ _ _ h h' => absurd h (by simp [h'])⟩
        · intro d v hv
          right
          refine ⟨fun j o _ _ => hlist j, ?_⟩
          have hdl : d < (F 0).length := by rw [← hsz]; exact (Array.getElem?_eq_some_iff.1 hv).1
          refine ⟨_, List.getElem?_eq_getElem hdl, ?_⟩
          obtain ⟨v', hv', hr⟩ := hf.get (List.getElem?_eq_getElem hdl)
          have : v' = v := by simpa [hv] using hv'.symm
          rw [← this]; exact hr
        · intro k hk
          have hid : R.cut (S k).length = R := Ren.cut_id (fun b hb' => I'.dom b (by have := g.len_le (Nat.zero_le k) (by omega); omega))
          rw [hid]
          exact (invAt k hk).shut
        · intro j o _ hL
          rw [hlist] at hL; cases hL
        · intro j hj _ b h1 _
          exact I'.dom b (by have := g.len_le (Nat.zero_le j) (by omega); omega)
      · cases h
    · cases h
  · cases h
end
end Go.Abs
namespace Go.Abs
open Go.RowKit (Below)
def Ren.only (R : Ren) (K : Nat → Bool) : Ren := ⟨fun b => if K b = true then R.box b else none, fun b => if K b = true then R.rows b else none, R.im⟩
section
variable {R : Ren} {K : Nat → Bool}
theorem only_box {b B : Nat} (h : R.box b = some B) (k : K b = true) : (R.only K).box b = some B := by simp [Ren.only, k, h]
theorem only_rows {b : Nat} {r : RRow} (h : R.rows b = some r) (k : K b = true) : (R.only K).rows b = some r := by simp [Ren.only, k, h]
mutual
theorem VRel.of_within : ∀ {a : AV} {v : Value}, VRel R a v → a.within K = true → VRel (R.only K) a v
  | _, _, .bool b, _ => .bool b
  | _, _, .int k n, _ => .int k n
  | _, _, .str s, _ => .str s
  | _, _, .nilIface, _ => .nilIface
  | _, _, .iface t x, f => .iface t (x.of_within (by simpa [AV.within] using f))
  | _, _, .agg x, f => .agg (x.of_within (by simpa [AV.within] using f))
  | _, _, .tuple x, f => .tuple (x.of_within (by simpa [AV.within] using f))
  | _, _, .func _ x y, f => .func _ (x.of_within (by simp [AV.within] at f; exact f.1)) (y.of_within (by simp [AV.within] at f; exact f.2))
  | _, _, .nilFunc, _ => .nilFunc
  | _, _, .nilp, _ => .nilp
  | _, _, .ptr off e, f => .ptr off (only_box e (by simpa [AV.within] using f))
  | _, _, .eptr i off e, f => .eptr i off (only_rows e (by simpa [AV.within] using f))
  | _, _, .eptrOld i off x e hg, f => .eptrOld i off x (only_rows e (by simpa [AV.within] using f)) hg
  | _, _, .ro off x, f => .ro off (x.of_within (by simpa [AV.within] using f))
  | _, _, .list0 x p cap e, _ => .list0 x p cap e
  | _, _, .list x sz cap e l c, f => .list x sz cap (e.of_within (by simpa [AV.within] using f)) l c
  | _, _, .sl off len p e hl hp, f => .sl off len p (only_rows e (by simpa [AV.within] using f)) hl hp
  | _, _, .slOld off len p cap e hg, f => .slOld off len p cap (only_rows e (by simpa [AV.within] using f)) hg
  | _, _, .bsl off len cap p e l hp, f => .bsl off len cap p (only_box e (by simpa [AV.within] using f)) l hp
  | _, _, .opq v, _ => .opq v
theorem VRels.of_within : ∀ {as : List AV} {vs : List Value}, VRels R as vs → AV.withins K as = true → VRels (R.only K) as vs
  | _, _, .nil, _ => .nil
  | _, _, .cons x y, f => .cons (x.of_within (by simp [AV.withins] at f; exact f.1)) (y.of_within (by simp [AV.withins] at f; exact f.2))
theorem CellsAt.of_within : ∀ {as : List AV} {B o : Nat}, CellsAt R as B o → AV.withins K as = true → CellsAt (R.only K) as B o
  | _, _, _, .nil B o, _ => .nil B o
  | _, _, _, .cons e x y, f => .cons e (x.of_within (by simp [AV.withins] at f; exact f.1)) (y.of_within (by simp [AV.withins] at f; exact f.2))
theorem ElemsAt.of_within : ∀ {es : List AV} {sz B o : Nat}, ElemsAt R es sz B o → AV.withins K es = true → ElemsAt (R.only K) es sz B o
  | _, _, _, _, .nil sz B o, _ => .nil sz B o
  | _, _, _, _, .cons (e := a) e x y, f => .cons e (x.of_within (by
      simp [AV.withins] at f; obtain ⟨f1, _⟩ := f
      cases a <;> simp_all [AV.cells, AV.withins, AV.within])) (y.of_within (by simp [AV.withins] at f; exact f.2))
end
end
theorem withins_append {K : Nat → Bool} : ∀ {as bs : List AV}, AV.withins K (as ++ bs) = (AV.withins K as && AV.withins K bs)
  | [], _ => by simp [AV.withins]
  | a :: as, bs => by simp [AV.withins, withins_append, Bool.and_assoc]
theorem within_cells {K : Nat → Bool} {e : AV} (h : e.within K = true) : AV.withins K e.cells = true := by
  cases e <;> simp_all [AV.cells, AV.withins, AV.within]
theorem withins_flat {K : Nat → Bool} : ∀ {es : List AV}, AV.withins K es = true → AV.withins K (es.flatMap AV.cells) = true
  | [], _ => rfl
  | e :: es, h => by
    simp only [AV.withins, Bool.and_eq_true] at h
    rw [List.flatMap_cons, withins_append, within_cells h.1, withins_flat h.2]; rfl
theorem withinS_at {n0 : Nat} {L : List Nat} : ∀ {σ : Sto} {b i : Nat} {x : Blk}, withinS n0 L b σ = true → σ[i]? = some x → keptA n0 L (b + i) = true → AV.withins (keptA n0 L) x.parts = true
  | [], _, _, _, _, h, _ => by simp at h
  | y :: σ, b, 0, x, h, hx, hk => by
    simp at hx; subst hx
    simp only [withinS, Bool.and_eq_true, Bool.or_eq_true, Bool.not_eq_true'] at h
    rcases h.1 with h | h
    · rw [Nat.add_zero] at hk; rw [hk] at h; cases h
    · exact h
  | y :: σ, b, i + 1, x, h, hx, hk => by
    simp only [withinS, Bool.and_eq_true] at h
    exact withinS_at (b := b + 1) h.2 (by simpa using hx) (by rw [show b + 1 + i = b + (i + 1) by omega]; exact hk)
theorem clear_rel {R : Ren} : ∀ {dead : List Nat} {fr : List AV} {vs : List Value}, VRels R fr vs → VRels R (clearA' dead fr) vs
  | [], _, _, h => h
  | d :: dead, fr, vs, h => by
    have h1 : VRels R (fr.set d .opq) vs := by
      refine VRels.of_get (by simp [h.length]) fun i a v ha hv => ?_
      rw [List.getElem?_set] at ha
      split at ha
      · split at ha
        · cases ha; exact .opq v
        · cases ha
      · obtain ⟨u, hu, hr⟩ := h.get ha
        rw [hv] at hu; cases hu; exact hr
    exact clear_rel (dead := dead) h1
theorem gc_ok {R0 R : Ren} {σ0 σ : Sto} {w0 w : World} {lo base n0 : Nat} {dead : List Nat} {fr : List AV} {vs : List Value} (I0 : Inv R0 σ0 w0 lo base) (st : Step R0 σ0 w0 lo base R σ w) (hn : n0 = σ0.length) (hlo : lo ≤ n0) (hv : VRels R fr vs) :
    ∃ R', Step R0 σ0 w0 lo base R' (gcA dead n0 fr σ).2 w ∧ VRels R' (gcA dead n0 fr σ).1 vs := by
  subst hn
  unfold gcA
  split
  · exact ⟨R, st, hv⟩
  · simp only
    generalize hL : reachA σ0.length σ (σ.length - σ0.length) (addNew σ0.length (AV.blockss (clearA' dead fr) ++ (σ.take σ0.length).flatMap fun x => AV.blockss x.parts) []) = L
    split
    · rename_i hc
      simp only [Bool.and_eq_true] at hc
      obtain ⟨h1, h2⟩ := hc
      generalize hm : L.foldl (fun a b => max a (b + 1)) σ0.length = m
      have hmn : σ0.length ≤ m := by rw [← hm]; exact max_le (n0 := 0)
      have I := st.inv
      let K := keptA σ0.length L
      have hKold : ∀ b, b < σ0.length → K b = true := fun b hb => by simp [K, keptA, hb]
      have hKm : ∀ b, K b = true → b < m := fun b hb => by
        simp only [K, keptA, Bool.or_eq_true, decide_eq_true_eq, List.contains_iff_mem] at hb
        rcases hb with hb | hb
        · omega
        · rw [← hm]; exact max_mem hb
      have hget : ∀ b, K b = true → (blankA σ0.length L 0 (σ.take m))[b]? = σ[b]? := fun b hb => by
        have hk : keptA σ0.length L b = true := hb
        rw [blankA_get, Nat.zero_add, List.getElem?_take, if_pos (hKm b hb)]
        cases σ[b]? <;> simp [hk]
      have hR' : ∀ b, (R.only K).box b ≠ none ∨ (R.only K).rows b ≠ none → K b = true := fun b h => by
        cases hk : K b with
        | true => rfl
        | false => simp [Ren.only, hk] at h
      have boxOf : ∀ {b B}, (R.only K).box b = some B → K b = true ∧ R.box b = some B := fun {b B} h => by
        have hk := hR' b (.inl (by rw [h]; simp))
        exact ⟨hk, by simpa [Ren.only, hk] using h⟩
      have rowsOf : ∀ {b r}, (R.only K).rows b = some r → K b = true ∧ R.rows b = some r := fun {b r} h => by
        have hk := hR' b (.inr (by rw [h]; simp))
        exact ⟨hk, by simpa [Ren.only, hk] using h⟩
      have atOf : ∀ {b B}, At (R.only K) b B → K b = true ∧ At R b B := fun {b B} h => by
        rcases h with h | ⟨r, h, e⟩
        · exact ⟨(boxOf h).1, .inl (boxOf h).2⟩
        · exact ⟨(rowsOf h).1, .inr ⟨r, (rowsOf h).2, e⟩⟩
      have hin : ∀ {b x}, K b = true → σ[b]? = some x → AV.withins K x.parts = true := fun {b x} hk hx => withinS_at (b := 0) h2 hx (by rw [Nat.zero_add]; exact hk)
      have I' : Inv (R.only K) (blankA σ0.length L 0 (σ.take m)) w lo base := by
        refine ⟨I.im, ?_, ?_, ?_, ?_, ?_, ?_, ?_, ?_, ?_⟩
        · intro b hb
          rw [blankA_length, List.length_take] at hb
          constructor
          · cases e : (R.only K).box b with
            | none => rfl
            | some B =>
              have := hKm b (boxOf e).1
              have := I.at_lt (.inl (boxOf e).2)
              omega
          · cases e : (R.only K).rows b with
            | none => rfl
            | some r =>
              have := hKm b (rowsOf e).1
              have := I.at_lt (.inr ⟨r, (rowsOf e).2, rfl⟩)
              omega
        · intro b cs fz hσ
          cases e : (R.only K).rows b with
          | none => rfl
          | some r =>
            rw [hget b (rowsOf e).1] at hσ
            have := I.kindB b cs fz hσ
            rw [(rowsOf e).2] at this; cases this
        · intro b es g sz fz hσ
          cases e : (R.only K).box b with
          | none => rfl
          | some r =>
            rw [hget b (boxOf e).1] at hσ
            have := I.kindR b es g sz fz hσ
            rw [(boxOf e).2] at this; cases this
        · intro b cs fz hσ B e
          obtain ⟨hk, hB⟩ := boxOf e
          rw [hget b hk] at hσ
          obtain ⟨c, T, q1, q2, q3⟩ := I.box b cs fz hσ B hB
          exact ⟨c, T, q1, q2.of_within (hin hk hσ), q3⟩
        · intro b es g sz fz hσ r e
          obtain ⟨hk, hr⟩ := rowsOf e
          rw [hget b hk] at hσ
          obtain ⟨g1, p1, p2, p3, p4, c, T, q1, q2, q3, q4⟩ := I.rows b es g sz fz hσ r hr
          exact ⟨g1, p1, p2, p3, p4, c, T, q1, q2, q3.of_within (withins_flat (hin hk hσ)), q4⟩
        · intro b b' B h1 h2
          exact I.apart b b' B (atOf h1).2 (atOf h2).2
        · intro b B h1 h2
          exact I.base b B h1 (atOf h2).2
        · intro b cs h1 hσ B e o
          obtain ⟨hk, hB⟩ := boxOf e
          rw [hget b hk] at hσ
          exact I.openB b cs h1 hσ B hB o
        · intro b es g sz h1 hσ r e o
          obtain ⟨hk, hr⟩ := rowsOf e
          rw [hget b hk] at hσ
          exact I.openR b es g sz h1 hσ r hr o
      refine ⟨R.only K, ⟨⟨fun b B e => ?_, fun b r e => ?_, st.le.im⟩, I', st.below, st.imNew, fun b hb => ?_, ?_, fun b hb => ?_, fun b q1 q2 => ?_, st.frame, fun b B hb hA => st.fresh b B hb (atOf hA).2, st.imAt⟩, (clear_rel hv).of_within h1⟩
      · exact only_box (st.le.box b B e) (hKold b (I0.at_lt (.inl e)))
      · obtain ⟨r', e', g1, g2⟩ := st.le.rows b r e
        exact ⟨r', only_rows e' (hKold b (I0.at_lt (.inr ⟨r, e, rfl⟩))), g1, g2⟩
      · rw [hget b (hKold b (by omega))]; exact st.keep b hb
      · rw [blankA_length, List.length_take]; have := st.len; omega
      · have := hKold b hb
        simp only [Ren.only, this, if_true]; exact st.boxOld b hb
      · have := hKold b q2
        simp only [Ren.only, this, if_true]; exact st.rowsOld b q1 q2
    · exact ⟨R, st, hv⟩
end Go.Abs
namespace Go.Abs
open Go.RowKit (Below)
variable {P : Program} {lo base : Nat}
def exitOf : XE → Exit
  | .normal => .normal
  | .exit id => .exit id
  | .ret => .ret
theorem results_run {R : Ren} {σ : Sto} {w : World} {fr : List AV} {ts : Array Value} (I : Inv R σ w lo base) (hf : VRels R fr ts.toList) {f : ResultVar → Sem Value} (f1 : ∀ t, f (.tmp t) = pure (ts.getD t undef))
    (f2 : ∀ a t, f (.cell a t) = do loadVar t (← asAddr (ts.getD a undef))) : ∀ {rs : List ResultVar} {vs : List AV}, resultsA P σ fr rs = some vs →
    ∃ us, (rs.mapM f).run P w = .ok us w ∧ VRels R vs us
  | [], vs, h => by
    simp only [resultsA, Option.some.injEq] at h; subst h
    exact ⟨[], rfl, .nil⟩
  | .tmp t :: rest, vs, h => by
    simp only [resultsA, Option.map_eq_some_iff] at h
    obtain ⟨vs', h, rfl⟩ := h
    obtain ⟨us, hu, hr⟩ := results_run I hf f1 f2 h
    refine ⟨ts.getD t undef :: us, ?_, .cons (getD_rel hf t) hr⟩
    rw [List.mapM_cons, f1]
    simp only [Sem.run_bind, Sem.run_pure, Result.andThen_ok, hu]
  | .cell a t :: rest, vs, h => by
    simp only [resultsA] at h
    split at h
    · rename_i v hv
      simp only [Option.map_eq_some_iff] at h
      obtain ⟨vs', h, rfl⟩ := h
      obtain ⟨us, hu, hr⟩ := results_run I hf f1 f2 h
      obtain ⟨u, hl, hru⟩ := load_run (P := P) I hv (getD_rel hf a)
      refine ⟨u :: us, ?_, .cons hru hr⟩
      have hl' : (do loadVar t (← asAddr (ts.getD a undef)) : Sem Value).run P w = .ok u w := by
        unfold loadA at hv
        split at hv
        · rename_i cs off hp
          obtain ⟨B, o, he, hh⟩ := place_rel I hp (getD_rel hf a)
          rw [he] at hl ⊢
          simp only [Instr.loadAt, Instr.sureAddr, Sem.run_bind, Sem.run_pure, Result.andThen_ok] at hl
          simp only [asAddr, Sem.run_bind, Sem.run_pure, Result.andThen_ok]
          exact hl
        · cases hv
      rw [List.mapM_cons, f2, Sem.run_bind, hl']
      simp only [Result.andThen_ok, Sem.run_bind, Sem.run_pure, hu]
    · cases h
theorem results_ok {R : Ren} {σ : Sto} {w : World} {fr : List AV} {ts : Array Value} {fn : Func} {vs : List AV} (I : Inv R σ w lo base) (hf : VRels R fr ts.toList) (h : resultsA P σ fr fn.results.toList = some vs) :
    ∃ v, (results fn ts).run P w = .ok v w ∧ VRel R (tupleA vs) v := by
  obtain ⟨us, hu, hr⟩ := results_run I hf (f := fun | .tmp t => pure (ts.getD t undef) | .cell a t => do loadVar t (← asAddr (ts.getD a undef))) (fun _ => rfl) (fun _ _ => rfl) h
  unfold results
  rw [Array.mapM_eq_mapM_toList]
  simp only [Sem.run_bind, map_eq_pure_bind, Sem.run_pure]
  refine ⟨(if h : us.toArray.size = 1 then us.toArray[0] else .tuple us.toArray), ?_, ?_⟩
  · refine (congrArg (fun x => (x.andThen fun a w' => Result.ok a.toArray w').andThen fun a w' => Result.ok (if h : a.size = 1 then a[0] else Value.tuple a) w') hu).trans ?_
    rfl
  cases hr with
  | nil => exact .tuple .nil
  | cons h1 h2 => cases h2 with
    | nil => exact h1
    | cons h2 h3 =>
      simp only [tupleA, List.size_toArray, List.length_cons]
      rw [dif_neg (by omega)]
      exact .tuple (.cons h1 (.cons h2 h3))
theorem rels_rep {R : Ren} : ∀ n : Nat, VRels R (List.replicate n undefA) (List.replicate n undef)
  | n => VRels.replicate (.tuple .nil) n
def RecOk (P : Program) (cfg : Cfg) (rec : Exec) : Prop := ∀ fn lo c fr σ x fr' σ', rec fn lo c fr σ = some (x, fr', σ') → ∀ R w base a Q, Inv R σ w lo base → base ≤ w.heap.size → lo ≤ σ.length → GlobOk cfg R → VRels R fr a.tmps.toList → a.defers = [] →
  (∀ a' w' R', Step R σ w lo base R' σ' w' → VRels R' fr' a'.tmps.toList → a'.defers = [] → Q (exitOf x) a' w') → c.wp P Q a w
theorem callW_ok {cfg : Cfg} {rec : Exec} (h : RecOk P cfg rec) : CallOk P cfg (callW P rec) := by
  intro f args lo σ r σ' hc R w base vs I hb hlo hg hv
  unfold callW at hc
  cases hfn : P.funcs[f]? with
  | none => simp [hfn] at hc
  | some fn =>
    simp only [hfn] at hc
    cases hbd : fn.body with
    | none => simp [hbd] at hc
    | some b =>
      simp only [hbd] at hc
      have hlen : args.length = vs.length := hv.length
      have hfr : VRels R (args ++ List.replicate (fn.ntmps - args.length) undefA) (vs.toArray ++ Array.replicate (fn.ntmps - vs.toArray.size) undef).toList := by
        rw [Array.toList_append, Array.toList_replicate]
        simp only [List.size_toArray, hlen]
        exact hv.append (rels_rep _)
      refine calls_of_wp hfn hbd ?_
      unfold finA at hc
      split at hc
      · cases hc
      · rename_i x fr' σ1 hx he
        simp only [Option.map_eq_some_iff, Prod.mk.injEq] at hc
        obtain ⟨vs', hres, rfl, rfl⟩ := hc
        refine h f lo b _ σ x fr' σ1 he R w base _ _ I hb hlo hg hfr rfl ?_
        intro a' w' R' hst hf' hd
        obtain ⟨v, hv, hrel⟩ := results_ok (fn := fn) hst.inv hf' hres
        have post : a'.defers = [] ∧ ∃ v, (results fn a'.tmps).run P w' = .ok v w' ∧ Post R σ w lo base (tupleA vs') σ1 (.returned v) w' := ⟨hd, v, hv, v, R', rfl, hst, hrel⟩
        cases x with
        | normal => exact post
        | ret => exact post
        | exit id => exact absurd rfl (hx id)
      · cases hc
theorem callW_body {cfg : Cfg} {rec : Exec} (hcfg : CfgOk P cfg) : BodyOk P (callW P rec) := by
  intro f args lo σ x h
  unfold callW at h
  cases hfn : P.funcs[f]? with
  | none => simp [hfn] at h
  | some fn =>
    simp only [hfn] at h
    cases hbd : fn.body with
    | none => simp [hbd] at h
    | some b => exact ⟨fn, rfl, hcfg.plain f fn hfn, by simp [hbd]⟩
def RoundsOk (P : Program) (cfg : Cfg) (k : Nat) : Prop := ∀ fn lo c fr σ x fr' σ', exec P cfg k fn lo (.loop c) fr σ = some (x, fr', σ') → ∀ R w base a Q, Inv R σ w lo base → base ≤ w.heap.size → lo ≤ σ.length → GlobOk cfg R → VRels R fr a.tmps.toList → a.defers = [] →
  (∀ a' w' R', Step R σ w lo base R' σ' w' → VRels R' fr' a'.tmps.toList → a'.defers = [] → Q (exitOf x) a' w') → Code.rounds P c Q k a w
theorem seqW_ok {cfg : Cfg} {rec : Exec} (ih : RecOk P cfg rec) {fn lo : Nat} {c1 c2 : Code} {fr fr' : List AV} {σ σ' : Sto} {x : XE} (h : seqW rec fn lo c2 (rec fn lo c1 fr σ) = some (x, fr', σ')) {R : Ren} {w : World} {base : Nat} {a : Act} {Q Q1 : Exit → Act → World → Prop}
    (I : Inv R σ w lo base) (hb : base ≤ w.heap.size) (hlo : lo ≤ σ.length) (hg : GlobOk cfg R) (hf : VRels R fr a.tmps.toList) (hd : a.defers = [])
    (hq : ∀ a' w' R', Step R σ w lo base R' σ' w' → VRels R' fr' a'.tmps.toList → a'.defers = [] → Q (exitOf x) a' w')
    (hn : ∀ fr1 σ1, rec fn lo c2 fr1 σ1 = some (x, fr', σ') → ∀ a1 w1 R1, Step R σ w lo base R1 σ1 w1 → VRels R1 fr1 a1.tmps.toList → a1.defers = [] → Q1 .normal a1 w1)
    (he : ∀ e a1 w1, e ≠ .normal → Q e a1 w1 → Q1 e a1 w1) : c1.wp P Q1 a w := by
  unfold seqW at h
  split at h
  · rename_i fr1 σ1 e1
    exact ih fn lo c1 fr σ .normal fr1 σ1 e1 R w base a _ I hb hlo hg hf hd fun a1 w1 R1 hst hf1 hd1 => hn fr1 σ1 h a1 w1 R1 hst hf1 hd1
  · rename_i hnn
    refine ih fn lo c1 fr σ x fr' σ' h R w base a _ I hb hlo hg hf hd fun a1 w1 R1 hst hf1 hd1 => ?_
    have := hq a1 w1 R1 hst hf1 hd1
    cases x with
    | normal => exact absurd h (hnn fr' σ')
    | exit id => exact he _ _ _ (by simp [exitOf]) this
    | ret => exact he _ _ _ (by simp [exitOf]) this
theorem exec_all {cfg : Cfg} (hm : P.follows .mixedOrders = true) (hcfg : CfgOk P cfg) : ∀ k, RecOk P cfg (exec P cfg k) ∧ RoundsOk P cfg k
  | 0 => ⟨fun _ _ _ _ _ _ _ _ h => by simp [exec] at h, fun _ _ _ _ _ _ _ _ h => by simp [exec] at h⟩
  | k + 1 => by
    obtain ⟨ih, ihr⟩ := exec_all hm hcfg k
    have hrounds : RoundsOk P cfg (k + 1) := by
      intro fn lo c fr σ x fr' σ' h R w base a Q I hb hlo hg hf hd hq
      simp only [exec, execW] at h
      rw [rounds_succ]
      generalize cfg.dead fn (firstId c) = dead at h
      have hf0 := clear_rel (dead := dead) hf
      unfold seqW at h
      split at h
      · rename_i fr1 σ1 e1
        unfold loopW at e1
        split at e1
        · rename_i fr0 σ0 e0
          simp only [Option.some.injEq, Prod.mk.injEq, true_and] at e1
          refine ih fn lo c _ σ .normal fr0 σ0 e0 R w base a _ I hb hlo hg hf0 hd fun a1 w1 R1 hst hf1 hd1 => ?_
          obtain ⟨R2, hst2, hf2⟩ := gc_ok (dead := dead) (n0 := σ.length) I hst rfl hlo hf1
          rw [e1] at hst2 hf2
          exact ihr fn lo c fr1 σ1 x fr' σ' h R2 w1 base a1 Q hst2.inv (Nat.le_trans hb hst2.below.size) (Nat.le_trans hlo hst2.len) (hg.mono hst2.le) hf2 hd1 fun a2 w2 R3 hst3 hf3 hd3 => hq a2 w2 R3 (hst2.trans hst3) hf3 hd3
        · rename_i hn
          exact absurd e1 (hn fr1 σ1)
      · rename_i hnn
        unfold loopW at h
        split at h
        · rename_i fr0 σ0 e0
          simp only [Option.some.injEq, Prod.mk.injEq] at h
          obtain ⟨rfl, h⟩ := h
          exfalso
          refine hnn fr' σ' ?_
          unfold loopW
          rw [e0]
          simp only [h]
        · refine ih fn lo c _ σ x fr' σ' h R w base a _ I hb hlo hg hf0 hd fun a1 w1 R1 hst hf1 hd1 => ?_
          have := hq a1 w1 R1 hst hf1 hd1
          cases x with
          | normal =>
            exfalso
            rename_i hn2
            exact hn2 fr' σ' h
          | exit id => exact this
          | ret => exact this
    refine ⟨?_, hrounds⟩
    intro fn lo c fr σ x fr' σ' h R w base a Q I hb hlo hg hf hd hq
    have hcall := callW_ok ih
    have hbody : BodyOk P (callW P (exec P cfg k)) := callW_body hcfg
    have hkeep : CallKeeps (callW P (exec P cfg k)) := callW_keeps (exec_keeps k)
    cases c
    case loop b => exact wp_loop_rounds (k + 1) (hrounds fn lo b fr σ x fr' σ' h R w base a Q I hb hlo hg hf hd hq)
    case region id ops draw =>
      cases draw with
      | true =>
        simp only [exec, execW, normW, Option.map_eq_some_iff, Prod.mk.injEq] at h
        obtain ⟨⟨fr1, σ1⟩, h, rfl, rfl, rfl⟩ := h
        exact region_ok hm hcfg hcall hbody hkeep h I hb hlo hg hf hd (fun a' w' R' hst hf' hd' _ => hq a' w' R' hst hf' hd')
      | false =>
        simp only [exec, execW, normW, Option.map_eq_some_iff, Prod.mk.injEq] at h
        obtain ⟨⟨fr1, σ1⟩, h, rfl, rfl, rfl⟩ := h
        exact wp_region_list (ops_ok hcfg hcall hbody trivial h I hb hlo hg hf hd (fun a' w' R' hst hf' hd' _ => hq a' w' R' hst hf' hd'))
    all_goals simp only [exec, execW] at h
    case skip => cases h; exact wp_skip (hq a w R (.refl I) hf hd)
    case label => cases h; exact wp_label (hq a w R (.refl I) hf hd)
    case exit id => cases h; exact wp_exit (hq a w R (.refl I) hf hd)
    case ret => cases h; exact wp_ret (hq a w R (.refl I) hf hd)
    case seq c1 c2 =>
      refine wp_seq (seqW_ok ih h I hb hlo hg hf hd hq ?_ ?_)
      · intro fr1 σ1 h1 a1 w1 R1 hst hf1 hd1
        exact ih fn lo c2 fr1 σ1 x fr' σ' h1 R1 w1 base a1 Q hst.inv (Nat.le_trans hb hst.below.size) (Nat.le_trans hlo hst.len) (hg.mono hst.le) hf1 hd1 fun a2 w2 R2 hst2 hf2 hd2 => hq a2 w2 R2 (hst.trans hst2) hf2 hd2
      · intro e a1 w1 hne hQ
        cases e <;> first | exact hQ | exact absurd rfl hne
    case cond y c1 c2 =>
      unfold condW at h
      split at h
      · rename_i he
        have hr := ev_ok hf hg he
        refine wp_cond_true ?_ (ih fn lo c1 fr σ x fr' σ' h R w base a Q I hb hlo hg hf hd hq)
        generalize a.eval y = u at hr
        cases hr; rfl
      · rename_i he
        have hr := ev_ok hf hg he
        refine wp_cond_false ?_ (ih fn lo c2 fr σ x fr' σ' h R w base a Q I hb hlo hg hf hd hq)
        generalize a.eval y = u at hr
        cases hr; rfl
      · cases h
    case block id b =>
      refine wp_block ?_
      unfold blockW at h
      split at h
      · rename_i id' fr1 σ1 e1
        refine ih fn lo b fr σ (.exit id') fr1 σ1 e1 R w base a _ I hb hlo hg hf hd fun a1 w1 R1 hst hf1 hd1 => ?_
        simp only [exitOf, Exit.inBlock]
        split at h
        · rename_i e; cases h; rw [if_pos e]; exact hq a1 w1 R1 hst hf1 hd1
        · rename_i e; cases h; rw [if_neg e]; exact hq a1 w1 R1 hst hf1 hd1
      · rename_i hn
        refine ih fn lo b fr σ x fr' σ' h R w base a _ I hb hlo hg hf hd fun a1 w1 R1 hst hf1 hd1 => ?_
        cases x with
        | normal => exact hq a1 w1 R1 hst hf1 hd1
        | exit id => exact absurd h (hn id fr' σ')
        | ret => exact hq a1 w1 R1 hst hf1 hd1
    case scope b =>
      refine wp_scope_straight (ih fn lo b fr σ x fr' σ' h R w base a _ I hb hlo hg hf hd fun a1 w1 R1 hst hf1 hd1 => ?_)
      have := hq a1 w1 R1 hst hf1 hd1
      cases x <;> exact this
    all_goals cases h
theorem call_ok {cfg : Cfg} (hm : P.follows .mixedOrders = true) (hcfg : CfgOk P cfg) (k : Nat) : CallOk P cfg (callF P cfg k) := callW_ok (exec_all hm hcfg k).1
end Go.Abs
namespace Go.Abs
open Go.RowKit (Below)
variable {P : Program}
def aggB (P : Program) (t : TypeId) : Bool := match P.underlying t with | some (.struct _) => true | some (.array _ _) => true | _ => false
def TyC (P : Program) : Nat → TypeId → List AV → Prop
  | 0, _, _ => False
  | n + 1, t, cs => match P.underlying t with
    | some .bool => ∃ b, cs = [.bool b]
    | some (.int k) => ∃ m, cs = [.int k m] ∧ (Lit.int k m).wf = true
    | some .string => ∃ s, cs = [.str s] ∧ s.size ≤ maxLen
    | some (.slice e) => ∃ es x, cs = [.list es x] ∧ es.length ≤ maxLen ∧ ∀ a ∈ es, if aggB P e = true then ∃ ds, a = .agg ds ∧ TyC P n e ds else TyC P n e [a]
    | some (.struct fs) => cs.length = P.cellsOf t ∧ ∀ (i : Nat) f, fs[i]? = some f → TyC P n f.type ((cs.drop f.offset).take (P.cellsOf f.type))
    | some (.array m e) => cs.length = P.cellsOf t ∧ ∀ i < m, TyC P n e ((cs.drop (i * P.cellsOf e)).take (P.cellsOf e))
    | _ => False
def contig (P : Program) : List Field → Nat → Option Nat
  | [], n => some n
  | f :: fs, n => if f.offset = n then contig P fs (n + P.cellsOf f.type) else none
def plainB (P : Program) (T : List TypeId) : Bool :=
  T.all fun t => match P.underlying t with
    | some .bool => P.cellsOf t == 1
    | some (.int _) => P.cellsOf t == 1
    | some .string => P.cellsOf t == 1
    | some (.slice e) => T.contains e && decide (0 < P.cellsOf e) && P.cellsOf t == 1
    | some (.struct fs) => fs.toList.all (fun f => T.contains f.type) && contig P fs.toList 0 == some (P.cellsOf t)
    | some (.array n e) => T.contains e && P.cellsOf t == n * P.cellsOf e
    | _ => false
theorem plain_at {T : List TypeId} (h : plainB P T = true) {t : TypeId} (ht : t ∈ T) : (match P.underlying t with
    | some .bool => P.cellsOf t == 1
    | some (.int _) => P.cellsOf t == 1
    | some .string => P.cellsOf t == 1
    | some (.slice e) => T.contains e && decide (0 < P.cellsOf e) && P.cellsOf t == 1
    | some (.struct fs) => fs.toList.all (fun f => T.contains f.type) && contig P fs.toList 0 == some (P.cellsOf t)
    | some (.array n e) => T.contains e && P.cellsOf t == n * P.cellsOf e
    | _ => false) = true := by
  unfold plainB at h
  exact List.all_eq_true.1 h t ht
def Ren.still (W : World) : Ren := ⟨fun _ => none, fun _ => none, fun B o => W.cell? ⟨B, o, none⟩⟩
theorem Inv.still (W : World) (lo base : Nat) : Inv (Ren.still W) [] W lo base := by
  have hA : ∀ {b B}, ¬ At (Ren.still W) b B := fun h => by rcases h with h | ⟨_, h, _⟩ <;> simp [Ren.still] at h
  refine ⟨fun _ _ _ h => h, fun _ _ => ⟨rfl, rfl⟩, fun _ _ _ _ => rfl, fun _ _ _ _ _ _ => rfl, ?_, ?_, fun _ _ _ h _ => absurd h hA, fun _ _ _ h => absurd h hA, ?_, ?_⟩
  · intro b cs fz h; simp at h
  · intro b es g sz fz h; simp at h
  · intro b cs _ h; simp at h
  · intro b es g sz _ h; simp at h
theorem pieces_rel {R : Ren} {P : Program} {G : TypeId → List AV → Prop} : ∀ {fs : List Field} {n m : Nat} {cs : List Value}, contig P fs n = some m → cs.length = m →
    (∀ f ∈ fs, ∃ as, VRels R as ((cs.drop f.offset).take (P.cellsOf f.type)) ∧ G f.type as) → ∃ as, VRels R as (cs.drop n) ∧
      ∀ (i : Nat) f, fs[i]? = some f → n ≤ f.offset ∧ f.offset + P.cellsOf f.type ≤ m ∧ G f.type ((as.drop (f.offset - n)).take (P.cellsOf f.type))
  | [], n, m, cs, h, hl, _ => by
    simp only [contig, Option.some.injEq] at h
    subst h
    refine ⟨[], ?_, fun i f h => by simp at h⟩
    rw [List.drop_eq_nil_of_le (by omega)]; exact .nil
  | f :: fs, n, m, cs, h, hl, hp => by
    simp only [contig] at h
    split at h
    · rename_i ho
      subst ho
      obtain ⟨as, hr, hg⟩ := pieces_rel (G := G) h hl (fun f' hf' => hp f' (by simp [hf']))
      obtain ⟨bs, hb, hgb⟩ := hp f (by simp)
      have hm : f.offset + P.cellsOf f.type ≤ m := by
        have : ∀ {l : List Field} {a b : Nat}, contig P l a = some b → a ≤ b := by
          intro l
          induction l with
          | nil => intro a b h; simp [contig] at h; omega
          | cons x xs ih => intro a b h; simp only [contig] at h; split at h <;> first | (have := ih h; omega) | cases h
        exact this h
      have hbl : bs.length = P.cellsOf f.type := by
        rw [hb.length, List.length_take, List.length_drop]; omega
      refine ⟨bs ++ as, ?_, fun i f' hi => ?_⟩
      · have e : cs.drop f.offset = (cs.drop f.offset).take (P.cellsOf f.type) ++ cs.drop (f.offset + P.cellsOf f.type) := by
          rw [← List.drop_drop, List.take_append_drop]
        rw [e]; exact hb.append hr
      · cases i with
        | zero =>
          simp only [List.getElem?_cons_zero, Option.some.injEq] at hi
          subst hi
          refine ⟨Nat.le_refl _, hm, ?_⟩
          rw [Nat.sub_self, List.drop_zero, List.take_append_of_le_length (by omega), List.take_of_length_le (by omega)]
          exact hgb
        | succ i =>
          obtain ⟨h1, h2, h3⟩ := hg i f' (by simpa using hi)
          refine ⟨by omega, h2, ?_⟩
          have e : (bs ++ as).drop (f'.offset - f.offset) = as.drop (f'.offset - (f.offset + P.cellsOf f.type)) := by
            rw [List.drop_append, List.drop_eq_nil_of_le (by omega), List.nil_append]
            congr 1; omega
          rw [e]; exact h3
    · cases h
theorem array_rel {R : Ren} {sz : Nat} {G : List AV → Prop} : ∀ {n : Nat} {cs : List Value}, cs.length = n * sz → (∀ i < n, ∃ as, VRels R as ((cs.drop (i * sz)).take sz) ∧ G as) →
    ∃ as, VRels R as cs ∧ ∀ i < n, G ((as.drop (i * sz)).take sz)
  | 0, cs, h, _ => by
    simp at h
    subst h
    exact ⟨[], .nil, fun i h => by omega⟩
  | n + 1, cs, h, hp => by
    rw [Nat.add_mul, Nat.one_mul] at h
    obtain ⟨as, hr, hg⟩ := array_rel (n := n) (cs := cs.take (n * sz)) (sz := sz) (G := G) (R := R) (by rw [List.length_take]; omega) (fun i hi => by
      obtain ⟨bs, hb, hgb⟩ := hp i (by omega)
      refine ⟨bs, ?_, hgb⟩
      have hle : i * sz + sz ≤ n * sz := by rw [← Nat.succ_mul]; exact Nat.mul_le_mul_right _ hi
      have e : ((cs.take (n * sz)).drop (i * sz)).take sz = (cs.drop (i * sz)).take sz := by
        rw [List.drop_take, List.take_take]; congr 1; omega
      rw [e]; exact hb)
    obtain ⟨bs, hb, hgb⟩ := hp n (by omega)
    have hbl : bs.length = sz := by rw [hb.length, List.length_take, List.length_drop]; omega
    have hal : as.length = n * sz := by rw [hr.length, List.length_take]; omega
    refine ⟨as ++ bs, ?_, fun i hi => ?_⟩
    · have e : cs = cs.take (n * sz) ++ (cs.drop (n * sz)).take sz := by
        rw [List.take_of_length_le (l := cs.drop (n * sz)) (by rw [List.length_drop]; omega), List.take_append_drop]
      rw [e]; exact hr.append hb
    · by_cases hin : i < n
      · have hle : i * sz + sz ≤ n * sz := by rw [← Nat.succ_mul]; exact Nat.mul_le_mul_right _ hin
        have e : ((as ++ bs).drop (i * sz)).take sz = (as.drop (i * sz)).take sz := by
          rw [List.drop_append_of_le_length (by omega), List.take_append_of_le_length (by rw [List.length_drop]; omega)]
        rw [e]; exact hg i hin
      · have : i = n := by omega
        subst this
        have e : ((as ++ bs).drop (i * sz)).take sz = bs := by
          rw [← hal, List.drop_left, List.take_of_length_le (by omega)]
        rw [e]; exact hgb
theorem elemsAt_mk {R : Ren} {sz B : Nat} {G : AV → Prop} : ∀ {n o : Nat}, (∀ i < n, ∃ e : AV, e.cells.length = sz ∧ CellsAt R e.cells B (o + i * sz) ∧ G e) → ∃ es : List AV, es.length = n ∧ ElemsAt R es sz B o ∧ ∀ e ∈ es, G e
  | 0, o, _ => ⟨[], rfl, .nil _ _ _, fun _ h => by cases h⟩
  | n + 1, o, h => by
    obtain ⟨e, h1, h2, h3⟩ := h 0 (by omega)
    obtain ⟨es, k1, k2, k3⟩ := elemsAt_mk (n := n) (o := o + sz) (sz := sz) (B := B) (G := G) (R := R) (fun i hi => by
      obtain ⟨e, h1, h2, h3⟩ := h (i + 1) (by omega)
      refine ⟨e, h1, ?_, h3⟩
      rw [show o + sz + i * sz = o + (i + 1) * sz by rw [Nat.add_mul]; omega]; exact h2)
    refine ⟨e :: es, by simp [k1], .cons h1 (by simpa using h2) k2, fun x hx => ?_⟩
    rcases List.mem_cons.1 hx with rfl | hx
    · exact h3
    · exact k3 x hx
theorem add_none {a : Addr} (h : a.spot = none) (k : Nat) : a.add k = ⟨a.block, a.off + k, none⟩ := by
  unfold Addr.add
  split
  · rename_i e; subst e; cases a; simp_all
  · rfl
theorem trod_typed {H : Type} {enc : TypeId × Value → H} {W : World} {T : List TypeId} (hp : plainB P T = true) {b0 : Nat} {sp : Nat → Bool} {hd : Bool} : ∀ {n : Nat} {t : TypeId} {cs : List Value} {x : DataW H × List MemPlace}, t ∈ T →
    DataW.trod enc P W b0 sp hd n t cs = some x → ∃ as, VRels (Ren.still W) as cs ∧ TyC P n t as ∧ as.length = P.cellsOf t
  | 0, _, _, _, _, h => by simp [DataW.trod] at h
  | n + 1, t, cs, x, ht, h => by
    have hpt := plain_at hp ht
    unfold DataW.trod at h
    unfold TyC
    cases hu : P.underlying t with
    | none => simp [hu] at hpt
    | some desc =>
      rw [hu] at hpt h
      cases desc <;> simp only [Bool.false_eq_true] at hpt <;> simp only at h ⊢
      case bool =>
        have hsz : P.cellsOf t = 1 := by simpa using hpt
        split at h
        all_goals (try (exfalso; clear h; simp_all; done))
        · exact ⟨_, .cons (.bool _) .nil, ⟨_, rfl⟩, hsz.symm⟩
        · cases h
      case int k =>
        have hsz : P.cellsOf t = 1 := by simpa using hpt
        split at h
        all_goals (try (exfalso; clear h; simp_all; done))
        · rename_i heq
          cases heq
          split at h
          · rename_i hk
            obtain ⟨rfl, hw⟩ := hk
            exact ⟨_, .cons (.int _ _) .nil, ⟨_, rfl, hw⟩, hsz.symm⟩
          · cases h
        · cases h
      case string =>
        have hsz : P.cellsOf t = 1 := by simpa using hpt
        split at h
        all_goals (try (exfalso; clear h; simp_all; done))
        · split at h
          · rename_i hk
            exact ⟨_, .cons (.str _) .nil, ⟨_, rfl, hk⟩, hsz.symm⟩
          · cases h
        · cases h
      case slice e =>
        simp only [Bool.and_eq_true, List.contains_iff_mem, decide_eq_true_eq, beq_iff_eq] at hpt
        obtain ⟨⟨heT, hpos⟩, hsz⟩ := hpt
        split at h
        all_goals (try (exfalso; clear h; simp_all; done))
        · exact ⟨[.list [] true], .cons (.list0 _ _ _ (fun _ => rfl)) .nil, ⟨[], true, rfl, Nat.zero_le _, fun _ h => by cases h⟩, hsz.symm⟩
        · rename_i heq
          cases heq
          rename_i a len cap
          split at h
          · rename_i hc
            obtain ⟨_, hcap, hmax⟩ := hc
            simp only [Option.bind_eq_some_iff] at h
            obtain ⟨elems, hel, _⟩ := h
            have hlen := mapM_some_length hel
            simp only [List.length_range] at hlen
            have getEl : ∀ i < len, ∃ y vs, W.cells? b0 (a.add (i * P.cellsOf e)) (P.cellsOf e) = some vs ∧ DataW.trod enc P W b0 sp hd n e vs = some y := by
              intro i hi
              have := mapM_some_get hel i i (by simp [hi])
              rw [List.getElem?_eq_getElem (by omega)] at this
              simp only [Option.bind_eq_some_iff] at this
              obtain ⟨vs, h1, h2⟩ := this
              exact ⟨_, vs, h1, h2⟩
            have cellAt : ∀ {x : Addr} {vs : List Value}, W.cells? b0 x (P.cellsOf e) = some vs → vs.length = P.cellsOf e ∧ ∀ q v, vs[q]? = some v → W.cell? (x.add q) = some v := by
              intro x vs hvs
              unfold World.cells? at hvs
              split at hvs
              · have hvl := mapM_some_length hvs
                simp only [List.length_range] at hvl
                refine ⟨hvl, fun q v hq => ?_⟩
                have hql : q < P.cellsOf e := by rw [← hvl]; exact (List.getElem?_eq_some_iff.1 hq).1
                have := mapM_some_get hvs q q (by simp [hql])
                rw [hq] at this; exact this
              · cases hvs
            have spot : 0 < len → a.spot = none := by
              intro h0
              obtain ⟨_, vs, h1, _⟩ := getEl 0 h0
              obtain ⟨hl, hc⟩ := cellAt h1
              have := hc 0 _ (List.getElem?_eq_getElem (by omega))
              have e0 : (a.add (0 * P.cellsOf e)).add 0 = a := by simp [Addr.add]
              rw [e0] at this
              unfold World.cell? at this
              split at this
              · split at this
                · cases this
                · rename_i hs; simpa using hs
              · cases this
            have each : ∀ i < len, ∃ a' : AV, a'.cells.length = P.cellsOf e ∧ CellsAt (Ren.still W) a'.cells a.block (a.off + i * P.cellsOf e) ∧ (if aggB P e = true then ∃ ds, a' = .agg ds ∧ TyC P n e ds else TyC P n e [a']) := by
              intro i hi
              obtain ⟨y, vs, hvs, htr⟩ := getEl i hi
              obtain ⟨as, hr, hty, hal⟩ := trod_typed hp heT htr
              have hspot := spot (by omega)
              have hcells : CellsAt (Ren.still W) as a.block (a.off + i * P.cellsOf e) := CellsAt.of_get fun q b hb => by
                obtain ⟨v, hv, hrel⟩ := hr.get hb
                have := (cellAt hvs).2 q v hv
                rw [add_none hspot, add_none rfl] at this
                exact ⟨v, this, hrel⟩
              by_cases hag : aggB P e = true
              · exact ⟨.agg as, hal, hcells, by rw [if_pos hag]; exact ⟨as, rfl, hty⟩⟩
              · -- one cell
                have h1 : P.cellsOf e = 1 := by
                  have := plain_at hp heT
                  unfold aggB at hag
                  split at this <;> simp_all
                match as, hal, hr, hty, hcells with
                | [b], _, hr, hty, hcells =>
                  have hb : b.cells = [b] := by
                    cases n with
                    | zero => exact hty.elim
                    | succ n =>
                      unfold TyC at hty
                      unfold aggB at hag
                      split at hty
                      · obtain ⟨_, hh⟩ := hty; cases hh; rfl
                      · obtain ⟨_, hh, _⟩ := hty; cases hh; rfl
                      · obtain ⟨_, hh, _⟩ := hty; cases hh; rfl
                      · obtain ⟨_, _, hh, _⟩ := hty; cases hh; rfl
                      · simp_all
                      · simp_all
                      · exact hty.elim
                  exact ⟨b, by rw [hb]; simp [h1], by rw [hb]; exact hcells, by rw [if_neg hag]; exact hty⟩
                | [], hal, _, _, _ => simp [h1] at hal
                | _ :: _ :: _, hal, _, _, _ => simp [h1] at hal
            obtain ⟨es, hesl, hesAt, hesG⟩ := elemsAt_mk (R := Ren.still W) (B := a.block) (o := a.off) (sz := P.cellsOf e)
              (G := fun a' => if aggB P e = true then ∃ ds, a' = .agg ds ∧ TyC P n e ds else TyC P n e [a']) (n := len) (fun i hi => by
                obtain ⟨a', h1, h2, h4⟩ := each i hi
                exact ⟨a', h1, h2, h4⟩)
            refine ⟨[.list es false], .cons ?_ .nil, ⟨es, false, rfl, by omega, hesG⟩, hsz.symm⟩
            by_cases h0 : len = 0
            · subst h0
              have : es = [] := List.eq_nil_of_length_eq_zero hesl
              subst this
              exact .list0 _ _ _ (fun h => by cases h)
            · have hspot := spot (by omega)
              have ha : a = ⟨a.block, a.off, none⟩ := by cases a; simp_all
              rw [← hesl, ha]
              exact .list false (P.cellsOf e) cap hesAt (by omega) (fun h => by cases h)
          · cases h
        · cases h
      case struct fs =>
        simp only [Bool.and_eq_true, List.all_eq_true, List.contains_iff_mem, beq_iff_eq] at hpt
        obtain ⟨hfT, hcon⟩ := hpt
        · split at h
          · rename_i hcl
            simp only [Option.map_eq_some_iff] at h
            obtain ⟨xs, hxs, _⟩ := h
            obtain ⟨as, hr, hg⟩ := pieces_rel (R := Ren.still W) (G := TyC P n) hcon hcl (fun f hf => by
              obtain ⟨i, hi⟩ := List.mem_iff_getElem?.1 hf
              have := mapM_some_get hxs i f hi
              have hlen := mapM_some_length hxs
              have hil : i < xs.length := by rw [hlen]; exact (List.getElem?_eq_some_iff.1 hi).1
              rw [List.getElem?_eq_getElem hil] at this
              obtain ⟨as, h1, h2, _⟩ := trod_typed hp (hfT f hf) this
              exact ⟨as, h1, h2⟩)
            rw [List.drop_zero] at hr
            have hal : as.length = P.cellsOf t := by rw [hr.length, hcl]
            refine ⟨as, hr, ⟨hal, fun i f hi => ?_⟩, hal⟩
            have := (hg i f (by simpa using hi)).2.2
            simpa using this
          · cases h
      case array m e =>
        simp only [Bool.and_eq_true, List.contains_iff_mem, beq_iff_eq] at hpt
        obtain ⟨heT, hsz⟩ := hpt
        · split at h
          · rename_i hcl
            simp only [Option.map_eq_some_iff] at h
            obtain ⟨xs, hxs, _⟩ := h
            have hlen := mapM_some_length hxs
            simp only [List.length_range] at hlen
            obtain ⟨as, hr, hg⟩ := array_rel (R := Ren.still W) (G := TyC P n e) (sz := P.cellsOf e) (n := m) (cs := cs) (by rw [hcl, hsz]) (fun i hi => by
              have := mapM_some_get hxs i i (by simp [hi])
              rw [List.getElem?_eq_getElem (by omega)] at this
              obtain ⟨as, h1, h2, _⟩ := trod_typed hp heT this
              exact ⟨as, h1, h2⟩)
            have hal : as.length = P.cellsOf t := by rw [hr.length, hcl]
            exact ⟨as, hr, ⟨hal, hg⟩, hal⟩
          · cases h
end Go.Abs
