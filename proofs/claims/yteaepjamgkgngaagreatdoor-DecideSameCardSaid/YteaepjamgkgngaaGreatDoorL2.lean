/-
  The interpreter over pure values is sound: what it computes, every call of the model does. No condition but those that each theorem names.
-/
import Derived.Test.YteaepjamgkgngaaGreatDoorL1
set_option linter.unusedSimpArgs false
set_option linter.unusedVariables false

namespace Go.Abs
open Go.RowKit (Below)

variable {P : Program} {R : Ren} {σ : Sto} {w : World} {lo base : Nat}

/-- What the elements of a slice are in memory. -/
structure ElemsIn (R : Ren) (w : World) (size : Nat) (xs : List AV) (p : Option Addr) (vals : List Value) : Prop where
  rel : VRels R (xs.flatMap AV.cells) vals
  len : ∀ e ∈ xs, e.cells.length = size
  at_ : xs ≠ [] → ∃ B o, p = some ⟨B, o, none⟩ ∧ ∀ (j : Nat) (u : Value), vals[j]? = some u → w.cell? ⟨B, o + j, none⟩ = some u

theorem flat_sub {sz : Nat} {es : List AV} (h : ∀ e ∈ es, e.cells.length = sz) (l n : Nat) : ((es.drop l).take n).flatMap AV.cells = ((es.flatMap AV.cells).drop (l * sz)).take (n * sz) := by
  induction es generalizing l n with
  | nil => simp
  | cons d es ih =>
    have hd := h d (by simp)
    have ih' := ih (fun x hx => h x (by simp [hx]))
    cases l with
    | succ l =>
      simp only [List.drop_succ_cons, List.flatMap_cons]
      rw [ih' l n, Nat.add_mul, Nat.one_mul, Nat.add_comm, ← hd, List.drop_length_add_append]
    | zero =>
      cases n with
      | zero => simp
      | succ n =>
        have := ih' 0 n
        simp only [List.drop_zero, List.take_succ_cons, List.flatMap_cons, Nat.zero_mul] at this ⊢
        rw [this, Nat.add_mul, Nat.one_mul, Nat.add_comm (n * sz), ← hd, List.take_length_add_append]

theorem elemsAt_vals {B sz o : Nat} : ∀ {es : List AV}, ElemsAt R es sz B o → Inv R σ w lo base → ∃ vals, VRels R (es.flatMap AV.cells) vals ∧ ∀ (j : Nat) (u : Value), vals[j]? = some u → w.cell? ⟨B, o + j, none⟩ = some u := by
  intro es h I
  have hlen : ∀ e ∈ es, e.cells.length = sz := fun e he => by
    obtain ⟨i, hi⟩ := List.mem_iff_getElem?.1 he
    exact (h.get hi).1
  have hh : Holds R w B o (es.flatMap AV.cells) := fun k a ha => by
    rcases Nat.eq_zero_or_pos sz with h0 | hpos
    · have : (es.flatMap AV.cells).length = 0 := by rw [flat_length hlen, h0]; simp
      have h2 := (List.getElem?_eq_some_iff.1 ha).1
      omega
    · have hk : k < es.length * sz := by
        have := (List.getElem?_eq_some_iff.1 ha).1
        rwa [flat_length hlen] at this
      have hdiv : k / sz < es.length := (Nat.div_lt_iff_lt_mul hpos).2 hk
      have hmod : k % sz < sz := Nat.mod_lt _ hpos
      have hk2 : k = k / sz * sz + k % sz := by have := Nat.div_add_mod k sz; rw [Nat.mul_comm] at this; omega
      have hg : es[k / sz]? = some es[k / sz] := List.getElem?_eq_getElem hdiv
      rw [hk2, flat_get hlen hg hmod] at ha
      obtain ⟨u, hu, hr⟩ := (h.get hg).2.get ha
      exact ⟨u, by rw [show o + k = o + k / sz * sz + k % sz by omega]; exact I.im _ _ _ hu, hr⟩
  exact hh.vals

theorem elems_rel (I : Inv R σ w lo base) {size : Nat} {x : AV} {xs : List AV} {v : Value} (h : elemsA σ size x = some xs) (hv : VRel R x v) :
    ∃ p cap vals, v = .slice p xs.length cap ∧ ElemsIn R w size xs p vals := by
  unfold elemsA at h
  split at h
  · rename_i es ex
    split at h
    · rename_i hall
      cases h
      have hlen : ∀ e ∈ xs, e.cells.length = size := fun e he => by simpa using List.all_eq_true.1 hall e he
      cases hv with
      | list0 _ p cap _ => exact ⟨p, cap, [], rfl, by simpa using VRels.nil, hlen, by simp⟩
      | list _ sz cap hE hlc hxx =>
        rename_i B o
        obtain ⟨vals, hr, hc⟩ := elemsAt_vals hE I
        exact ⟨_, cap, vals, rfl, hr, hlen, fun _ => ⟨B, o, rfl, hc⟩⟩
    · cases h
  · rename_i b g off len
    split at h
    · rename_i es g' sz fz hσ
      split at h
      · rename_i hc
        obtain ⟨rfl, rfl, hle⟩ := hc
        cases h
        cases hv with
        | slOld _ _ p cap hR hlt =>
          rename_i r
          obtain ⟨hgen, _⟩ := I.rows b es _ sz fz hσ r hR
          omega
        | sl _ _ p hR hcap hp =>
          rename_i r
          obtain ⟨_, hsz, hpos, hcape, hes, c, T, hw, hcs, hr, _⟩ := I.rows b es _ sz fz hσ r hR
          have hl : ((es.drop off).take len).length = len := by simp; omega
          refine ⟨p, r.cap - off, ((c.toList.take (es.length * sz)).drop (off * sz)).take (len * sz), by rw [hl], ?_, fun e he => hes e (List.mem_of_mem_drop (List.mem_of_mem_take he)), fun hne => ?_⟩
          · rw [flat_sub hes]; exact (hr.drop _).take _
          · have h0 : 0 < len := by
              rcases Nat.eq_zero_or_pos len with h | h
              · subst h; simp at hne
              · exact h
            refine ⟨r.blk, off * r.sz, hp (by omega), fun j u hu => ?_⟩
            rw [List.getElem?_take] at hu
            split at hu
            · rw [List.getElem?_drop, List.getElem?_take] at hu
              split at hu
              · rw [cell_of_heap hw, hsz]; simpa using hu
              · cases hu
            · cases hu
      · cases h
    · cases h
  · rename_i b off len
    split at h
    · rename_i cs fz hσ
      split at h
      · rename_i hc
        obtain ⟨rfl, hle, hall⟩ := hc
        cases h
        cases hv with
        | bsl _ _ cap p hB hcap hp =>
          rename_i B
          obtain ⟨c, T, hw, hr, _⟩ := I.box b cs fz hσ B hB
          have hl : ((cs.drop off).take len).length = len := by simp; omega
          have hone : ∀ e ∈ (cs.drop off).take len, e.cells = [e] := fun e he => cells_of_isCell (List.all_eq_true.1 hall e (List.mem_of_mem_drop (List.mem_of_mem_take he)))
          have hfl : ∀ l : List AV, (∀ e ∈ l, e.cells = [e]) → l.flatMap AV.cells = l := fun l => by
            induction l with
            | nil => simp
            | cons d l ih => intro h; simp [h d (by simp), ih (fun e he => h e (by simp [he]))]
          refine ⟨p, cap, (c.toList.drop off).take len, by rw [hl], ?_, fun e he => by rw [hone e he]; rfl, fun hne => ?_⟩
          · rw [hfl _ hone]; exact (hr.drop _).take _
          · have h0 : 0 < len := by
              rcases Nat.eq_zero_or_pos len with h | h
              · subst h; simp at hne
              · exact h
            refine ⟨B, off, hp h0, fun j u hu => ?_⟩
            rw [List.getElem?_take] at hu
            split at hu
            · rw [List.getElem?_drop] at hu
              rw [cell_of_heap hw]; simpa using hu
            · cases hu
      · cases h
    · cases h
  · cases h

theorem first_run {size : Nat} {xs : List AV} {p : Option Addr} {vals : List Value} (h : ElemsIn R w size xs p vals) (cap : Nat) {k : Nat} (hk : k ≤ xs.length) (W : World) (hW : ∀ a, W.cell? a = w.cell? a) :
    (Builtin.firstCells size k (.slice p xs.length cap)).run P W = .ok (vals.take (k * size)).toArray W := by
  have hvl : vals.length = xs.length * size := by rw [← h.rel.length, flat_length h.len]
  have hks : k * size ≤ xs.length * size := Nat.mul_le_mul_right _ hk
  cases p with
  | none =>
    have hxs : xs = [] := by
      by_cases e : xs = []
      · exact e
      · obtain ⟨B, o, hp, _⟩ := h.at_ e; cases hp
    subst hxs
    simp at hvl hk
    subst hvl
    simp [Builtin.firstCells, Sem.run_pure]
  | some a =>
    by_cases e : xs = []
    · subst e
      simp at hvl hk
      subst hvl; subst hk
      simp [Builtin.firstCells, loadCells, loadCellsFrom, Sem.run_pure]
    · obtain ⟨B, o, hp, hc⟩ := h.at_ e
      cases hp
      have := run_loadCells_list (P := P) W ⟨B, o, none⟩ (vals.take (k * size)) (fun j u hu => by
        rw [addr_add, hW]
        rw [List.getElem?_take] at hu
        split at hu
        · exact hc j u hu
        · cases hu)
      rw [List.length_take, Nat.min_eq_left (by omega)] at this
      simpa [Builtin.firstCells] using this

theorem growBy_le (n : Nat) : ∀ (k c : Nat), c ≤ 2 * n + 192 → Builtin.growBy n k c ≤ 2 * n + 192
  | 0, c, h => h
  | k + 1, c, h => by
    unfold Builtin.growBy
    split
    · exact h
    · exact growBy_le n k _ (by omega)

theorem nextcap_le {need old : Nat} (h : old < need) : Builtin.nextslicecap need old ≤ 2 * need + 192 := by
  unfold Builtin.nextslicecap
  split
  · omega
  · split
    · omega
    · exact growBy_le need 4 old (by omega)

theorem Inv.drew (I : Inv R σ w lo base) : Inv R σ { w with drawn := w.drawn + 1 } lo base :=
  I.quiet rfl rfl (fun _ _ _ h => h) (fun B o v h => I.im B o v h) (fun B o v h n => absurd h (by simp [n])) (fun _ _ => rfl)

theorem Step.drew (I : Inv R σ w lo base) : Step R σ w lo base R σ { w with drawn := w.drawn + 1 } :=
  ⟨.refl R, I.drew, ⟨rfl, rfl, rfl, Nat.le_refl _, fun _ _ => rfl⟩, fun _ _ _ h h' => absurd h (by simp [h']), fun _ _ => rfl, Nat.le_refl _, fun _ _ => rfl, fun _ _ _ => rfl, fun _ _ h => h⟩

theorem lenOf_slice (p : Option Addr) (n c : Nat) (W : World) : (Builtin.lenOf (.slice p n c)).run P W = .ok n W := rfl

theorem zeroCells_len (z : Array Value) (n : Nat) : (Builtin.zeroCells z n).size = n * z.size := by simp [Builtin.zeroCells]

/-- An append that finds room. -/
theorem append_room {argTypes : Array TypeId} {type sT xT elem : TypeId} {size n sLen sCap : Nat} {base' : Option Addr} {xs : List AV} {p : Option Addr} {vals : List Value} {cap : Nat}
    (h0 : argTypes[0]? = some sT) (h1 : argTypes[1]? = some xT) (hu : P.underlying sT = some (.slice elem)) {xe : TypeId} (hx : P.underlying xT = some (.slice xe)) (hs : szOf P elem = some size)
    (hE : ElemsIn R w size xs p vals) (hn : n = xs.length) (hroom : sLen + n ≤ sCap) :
    (Builtin.append_ argTypes type #[.slice base' sLen sCap, .slice p n cap]).run P w =
      (match base' with | some a => (do storeCells (a.add (sLen * size)) vals; pure (Value.slice base' (sLen + n) sCap) : Sem Value) | none => pure (Value.slice base' (sLen + n) sCap)).run P w := by
  subst hn
  have hf := first_run (P := P) hE cap (Nat.le_refl _) w (fun _ => rfl)
  have hvl : vals.length = xs.length * size := by rw [← hE.rel.length, flat_length hE.len]
  rw [List.take_of_length_le (by omega)] at hf
  simp only [Builtin.append_, h0, h1]
  simp only [List.getElem?_toArray, List.getElem?_cons_zero, List.getElem?_cons_succ, Sem.run_bind, run_under hu, run_under hx, Result.andThen_ok, run_szOf hs, Sem.run_pure, Bool.false_eq_true, if_false, lenOf_slice, hroom, if_true, Bool.not_false, hf]
  cases base' <;> simp

/-- An append that finds none: a new row, of whatever capacity. -/
theorem append_grow {argTypes : Array TypeId} {type sT xT elem : TypeId} {size bytes n sLen sCap : Nat} {base' : Option Addr} {es xs : List AV} {p : Option Addr} {ovals vals : List Value} {cap : Nat} {z : AV}
    (h0 : argTypes[0]? = some sT) (h1 : argTypes[1]? = some xT) (hu : P.underlying sT = some (.slice elem)) {xe : TypeId} (hx : P.underlying xT = some (.slice xe)) (hs : szOf P elem = some size) (hby : byOf P elem = some bytes)
    (hz : zeroA P elem = some z) (hzl : z.cells.length = size)
    (hO : ElemsIn R w size es base' ovals) (hE : ElemsIn R w size xs p vals) (hn : n = xs.length) (hsl : sLen = es.length) (hroom : ¬ sLen + n ≤ sCap) (hbound : (sLen + n + 256) * bytes ≤ 2 ^ 46) (hlen : sLen + n < 2 ^ 50) :
    ∃ newCap rest, sLen + n ≤ newCap ∧ rest.length = (newCap - (sLen + n)) * size ∧ (Builtin.append_ argTypes type #[.slice base' sLen sCap, .slice p n cap]).run P w =
      .ok (.slice (some ⟨w.heap.size, 0, none⟩) (sLen + n) newCap) (({ w with drawn := w.drawn + 1 } : World).alloc (.cells (ovals ++ vals ++ rest).toArray elem)) := by
  subst hn; subst hsl
  have hvl : vals.length = xs.length * size := by rw [← hE.rel.length, flat_length hE.len]
  have hol : ovals.length = es.length * size := by rw [← hO.rel.length, flat_length hO.len]
  obtain ⟨ie, zv, hie, hzv, hzr, hno⟩ := zero_info hz
  have hbb : ie.bytes = bytes := by unfold byOf at hby; rw [hie] at hby; simpa using hby
  have hzs : zv.cells.size = size := by have := ((hzr R).cells hno).length; simp at this; omega
  have hti : ∀ W, (typeInfo elem).run P W = .ok ie W := fun W => by simp [typeInfo, program, hie, Sem.run]
  have hzz : ∀ W, (zeroValue elem).run P W = .ok zv W := fun W => by simp [zeroValue, typeInfo, program, hie, hzv, Sem.run]
  have hmax : ¬ (((es.length + xs.length : Nat) : Int) > IntKind.i64.max ∧ (false = true ∨ ie.bytes = 0)) := by
    intro ⟨h, _⟩
    have : IntKind.i64.max = 9223372036854775807 := by decide
    rw [this] at h
    omega
  have hcap2 : ¬ (Builtin.nextslicecap (es.length + xs.length) sCap * ie.bytes > 2 ^ 48) := by
    have h1 := nextcap_le (need := es.length + xs.length) (old := sCap) (by omega)
    have h2 : Builtin.nextslicecap (es.length + xs.length) sCap * ie.bytes ≤ (2 * (es.length + xs.length) + 192) * ie.bytes := Nat.mul_le_mul_right _ h1
    have h3 : (2 * (es.length + xs.length) + 192) * ie.bytes ≤ (2 * (es.length + xs.length + 256)) * ie.bytes := Nat.mul_le_mul_right _ (by omega)
    rw [hbb] at *
    have h4 : (2 * (es.length + xs.length + 256)) * bytes = 2 * ((es.length + xs.length + 256) * bytes) := by rw [Nat.mul_assoc]
    omega
  let t := w.tape w.drawn (.appendCap (es.length + xs.length) sCap elem)
  let newCap := es.length + xs.length + t % (2 ^ 63 - (es.length + xs.length))
  let W : World := { w with drawn := w.drawn + 1 }
  have hchoose : (choose (.appendCap (es.length + xs.length) sCap elem)).run P w = .ok newCap W := by
    simp [choose, Sem.run, Question.forced, Question.cut, newCap, t, W]
  have hf1 := first_run (P := P) hE cap (Nat.le_refl _) W (fun _ => rfl)
  have hf0 := first_run (P := P) hO sCap (Nat.le_refl _) W (fun _ => rfl)
  rw [List.take_of_length_le (by omega)] at hf1 hf0
  have hask : (askRoom (newCap * ie.bytes)).run P W = .ok () W := by
    unfold askRoom; split <;> rfl
  refine ⟨newCap, (Builtin.zeroCells zv.cells (newCap - (es.length + xs.length))).toList, Nat.le_add_right _ _, by simp [zeroCells_len, hzs], ?_⟩
  simp only [Builtin.append_, h0, h1]
  simp only [List.getElem?_toArray, List.getElem?_cons_zero, List.getElem?_cons_succ, Sem.run_bind, run_under hu, run_under hx, Result.andThen_ok, run_szOf hs, Sem.run_pure, Bool.false_eq_true, if_false, lenOf_slice, hroom]
  have hmax' : ¬ (((es.length : Int) + (xs.length : Int)) > IntKind.i64.max ∧ (False ∨ ie.bytes = 0)) := by simpa using hmax
  simp only [hti, Result.andThen_ok, Int.natCast_add, hmax', if_false, hcap2, hchoose, hask, hf0, hf1, Bool.not_false, if_true, hzz, newRow, Sem.run_bind, run_newObj, Sem.run_pure]
  congr 2
  simp [World.alloc, W]
  congr 2
  apply Array.ext'
  simp

end Go.Abs

namespace Go.Abs
open Go.RowKit (Below)

variable {P : Program} {R : Ren} {σ : Sto} {w : World} {lo base : Nat}

theorem flat_append (es xs : List AV) : (es ++ xs).flatMap AV.cells = es.flatMap AV.cells ++ xs.flatMap AV.cells := by simp

theorem oneCells {es : List AV} {vals : List Value} {size : Nat} (h : VRels R (es.flatMap AV.cells) vals) (hc : es.all (fun e => e.cells.length == size && e.cells.all AV.isCell) = true) : ∀ v ∈ vals, v.oneCell' = true :=
  h.oneCell (by
    rw [List.all_eq_true] at hc ⊢
    intro a ha
    obtain ⟨e, he, ha⟩ := List.mem_flatMap.1 ha
    have := hc e he
    simp only [Bool.and_eq_true] at this
    exact List.all_eq_true.1 this.2 a ha)

theorem append_run (I : Inv R σ w lo base) (hb : base ≤ w.heap.size) (hlo : lo ≤ σ.length) {argTypes : Array TypeId} {type : TypeId} {s x a : AV} {σ' : Sto} {sv xv : Value} (h : appendA P lo σ argTypes s x = some (a, σ')) (hs : VRel R s sv) (hx : VRel R x xv) :
    ∃ u w' R', (Builtin.append_ argTypes type #[sv, xv]).run P w = .ok u w' ∧ Step R σ w lo base R' σ' w' ∧ VRel R' a u := by
  unfold appendA at h
  split at h
  · rename_i sT xT h0 h1
    split at h
    · rename_i elem xe hu hxu
      split at h
      · rename_i size bytes z hsz hby hz
        split at h
        · rename_i hc
          obtain ⟨hpos, hzl, hbpos⟩ := hc
          split at h
          · rename_i xs hxs
            split at h
            · rename_i hcells
              obtain ⟨p, cap, vals, rfl, hE⟩ := elems_rel I hxs hx
              have hone := oneCells hE.rel hcells
              have hvl : vals.length = xs.length * size := by rw [← hE.rel.length, flat_length hE.len]
              -- nothing is appended
              have hnone : ∀ (b0 : Option Addr) (sl sc : Nat), xs.isEmpty = true → sl ≤ sc → (Builtin.append_ argTypes type #[.slice b0 sl sc, .slice p xs.length cap]).run P w = .ok (.slice b0 sl sc) w := by
                intro b0 sl sc he hle
                have hxe : xs = [] := by simpa using he
                subst hxe
                rw [append_room h0 h1 hu hxu hsz hE rfl (by simpa using hle)]
                simp at hvl
                subst hvl
                cases b0 <;> simp [storeCells, Sem.run_pure]
              split at h
              · rename_i es ex
                split at h
                · rename_i he
                  cases h
                  cases hs with
                  | list0 _ q c hx' => exact ⟨_, w, R, hnone q 0 c he (Nat.zero_le _), .refl I, .list0 _ q c hx'⟩
                  | list _ sz c hA hle hx' => exact ⟨_, w, R, hnone _ es.length c he hle, .refl I, .list _ sz c hA hle hx'⟩
                · rename_i he
                  split at h
                  · rename_i hc2
                    obtain ⟨rfl, hall, hbound⟩ := hc2
                    cases h
                    have hel : elemsA σ size (.list es true) = some es := by simp only [elemsA]; rw [if_pos hall]
                    obtain ⟨q, c, ovals, rfl, hO⟩ := elems_rel I hel hs
                    have hcap : c = es.length := by
                      cases hs with
                      | list0 _ _ _ hx' => exact hx' rfl
                      | list _ _ _ _ _ hx' => exact hx' rfl
                    have hxpos : 0 < xs.length := by
                      cases xs with
                      | nil => simp at he
                      | cons _ _ => simp
                    have hlen : es.length + xs.length < 2 ^ 50 := by
                      have : es.length + xs.length + 256 ≤ (es.length + xs.length + 256) * bytes := Nat.le_mul_of_pos_right _ hbpos
                      omega
                    obtain ⟨newCap, rest, hn1, hn2, hrun⟩ := append_grow (type := type) (sCap := c) h0 h1 hu hxu hsz hby hz hzl hO hE rfl rfl (by omega) hbound hlen
                    have hol : ovals.length = es.length * size := by rw [← hO.rel.length, flat_length hO.len]
                    have I' := I.drew
                    have hall' : ∀ e ∈ es ++ xs, e.cells.length = size := fun e he' => by
                      rcases List.mem_append.1 he' with h' | h'
                      · exact hO.len e h'
                      · exact hE.len e h'
                    have hrel : VRels R ((es ++ xs).flatMap AV.cells) (ovals ++ vals) := by rw [flat_append]; exact hO.rel.append hE.rel
                    have htake : ((ovals ++ vals ++ rest).toArray.toList).take ((es ++ xs).length * size) = ovals ++ vals := by
                      rw [List.toList_toArray, List.take_left' (by simp [hol, hvl, Nat.add_mul])]
                    obtain ⟨R', hst, hR'⟩ := Step.allocRows I' hb hlo (es := es ++ xs) (c := (ovals ++ vals ++ rest).toArray) elem (sz := size) (cap := newCap) hpos (by simpa using hn1) hall' (by
                      simp only [List.size_toArray, List.length_append, hol, hvl, hn2]
                      rw [← Nat.add_mul, ← Nat.add_mul]
                      exact Nat.le_of_eq (by congr 1; omega)) (by rw [htake]; exact hrel)
                    refine ⟨_, _, R', hrun, (Step.drew I).trans hst, ?_⟩
                    have := VRel.sl (R := R') 0 (es.length + xs.length) (some ⟨w.heap.size, 0 * size, none⟩) hR' (by simpa using hn1) (fun _ => rfl)
                    simpa using this
                  · cases h
              · rename_i b g off len
                split at h
                · rename_i es g' sz hσ
                  split at h
                  · rename_i hc2
                    obtain ⟨rfl, rfl, hlb, hle⟩ := hc2
                    cases hs with
                    | slOld _ _ q c hR hlt =>
                      rename_i r
                      obtain ⟨hgen, _⟩ := I.rows b es _ sz false hσ r hR
                      omega
                    | sl _ _ q hR hcap hp =>
                      rename_i r
                      obtain ⟨_, hrs, _, hcape, hes, c, T, hw, hcs, hr, _⟩ := I.rows b es _ sz false hσ r hR
                      have hB : base ≤ r.blk := I.base b _ hlb (.inr ⟨r, hR, rfl⟩)
                      have hesz : es.length * sz ≤ c.size := Nat.le_trans (Nat.mul_le_mul_right _ hcape) hcs
                      split at h
                      · rename_i he
                        cases h
                        exact ⟨_, w, R, hnone q len (r.cap - off) he (by omega), .refl I, .sl _ _ q hR hcap hp⟩
                      · rename_i he
                        have hxpos : 0 < xs.length := by
                          cases xs with
                          | nil => simp at he
                          | cons _ _ => simp
                        split at h
                        · -- at the end
                          rename_i hend
                          obtain ⟨rfl, rfl⟩ := hend
                          split at h
                          · rename_i hbound
                            cases h
                            have hall' : ∀ e ∈ es ++ xs, e.cells.length = sz := fun e he' => by
                              rcases List.mem_append.1 he' with h' | h'
                              · exact hes e h'
                              · exact hE.len e h'
                            have hoth : ∀ b' B, At R b' B → b' ≠ b → B ≠ r.blk := fun b' B h1 h2 e => h2 (by subst e; exact I.apart b' b _ h1 (.inr ⟨r, hR, rfl⟩))
                            have hlen : es.length + xs.length < 2 ^ 50 := by
                              have : es.length + xs.length + 256 ≤ (es.length + xs.length + 256) * bytes := Nat.le_mul_of_pos_right _ hbpos
                              omega
                            by_cases hroom : es.length + xs.length ≤ r.cap - 0
                            · have hrun := append_room (type := type) (base' := q) (cap := cap) h0 h1 hu hxu hsz hE rfl hroom
                              have hq := hp (by omega)
                              subst hq
                              have hst := run_storeCells_at P r.blk (es.length * sz) T vals 0 c w hw (by
                                have : (es.length + xs.length) * sz ≤ r.cap * sz := Nat.mul_le_mul_right _ (by omega)
                                rw [Nat.add_mul] at this; omega) hone
                              simp only [Nat.add_zero] at hst
                              let c' := (c.toList.take (es.length * sz) ++ vals ++ c.toList.drop (es.length * sz + vals.length)).toArray
                              have hrel : VRels R ((es ++ xs).flatMap AV.cells) (c'.toList.take ((es ++ xs).length * sz)) := by
                                rw [flat_append]
                                have : c'.toList.take ((es ++ xs).length * sz) = c.toList.take (es.length * sz) ++ vals := by
                                  simp only [c', List.toList_toArray]
                                  rw [List.take_left' (by simp [hvl, Nat.add_mul]; omega)]
                                rw [this]
                                exact hr.append hE.rel
                              obtain ⟨hle', hinv⟩ := I.growRows (B' := r.blk) (cap := r.cap) (w' := w.setRow r.blk c') (es' := es ++ xs) hσ hR
                                (fun b' B h1 h2 => ⟨setRow_other w r.blk B c' (hoth b' B h1 h2), hoth b' B h1 h2⟩)
                                (fun B o v hi => by
                                  by_cases e : B = r.blk
                                  · subst e; rw [I.openR b es _ sz hlb hσ r hR o] at hi; cases hi
                                  · rw [cell_setRow_other w r.blk c' _ e]; exact I.im B o v hi) hB (I.openR b es _ sz hlb hσ r hR) (by simp; omega) hall' (setRow_heap w r.blk c c' T (0, 0) hw) (by simp [c', hvl]; omega) hrel
                              refine ⟨.slice (some ⟨r.blk, 0 * r.sz, none⟩) (es.length + xs.length) (r.cap - 0), w.setRow r.blk c', _, ?_, ⟨hle', hinv, below_setRow hB _, fun _ _ _ h h' => absurd (show R.im _ _ = some _ from h) (by simp [h']), fun b' hb' => List.getElem?_set_ne (by omega), by simp, fun _ _ => rfl, fun b' h1 _ => by simp only [Ren.withRows]; rw [if_neg (by omega)], fun b' _ hn => by
                                simp only [Ren.withRows]; rw [if_neg (fun e => by subst e; rw [hR] at hn; cases hn)]; exact hn⟩, ?_⟩
                              · rw [hrun]
                                simp only [Sem.run_bind, Nat.zero_mul, addr_add, Nat.zero_add, hst, Result.andThen_ok, Sem.run_pure, c']
                              · have := VRel.sl (R := R.withRows b ⟨r.blk, sz, r.cap, r.gen + 1⟩) (b := b) (r := ⟨r.blk, sz, r.cap, r.gen + 1⟩) 0 (es.length + xs.length) (some ⟨r.blk, 0 * r.sz, none⟩) (by simp [Ren.withRows]) (by simpa using hroom) (fun _ => by simp)
                                exact this
                            · have hel : ElemsIn R w sz es q (c.toList.take (es.length * sz)) := ⟨hr, hes, fun hne => by
                                have : 0 < es.length := List.length_pos_iff.2 hne
                                refine ⟨r.blk, 0 * r.sz, hp (by omega), fun j u hu => ?_⟩
                                rw [List.getElem?_take] at hu
                                split at hu
                                · rw [Nat.zero_mul, Nat.zero_add, cell_of_heap hw]; simpa using hu
                                · cases hu⟩
                              obtain ⟨newCap, rest, hn1, hn2, hrun⟩ := append_grow (type := type) h0 h1 hu hxu hsz hby hz hzl hel hE rfl rfl hroom hbound hlen
                              have hol : (c.toList.take (es.length * sz)).length = es.length * sz := by simp; omega
                              let c' := (c.toList.take (es.length * sz) ++ vals ++ rest).toArray
                              have hrel : VRels R ((es ++ xs).flatMap AV.cells) (c'.toList.take ((es ++ xs).length * sz)) := by
                                rw [flat_append]
                                have : c'.toList.take ((es ++ xs).length * sz) = c.toList.take (es.length * sz) ++ vals := by
                                  simp only [c', List.toList_toArray]
                                  rw [List.take_left' (by rw [List.length_append, hol, hvl, List.length_append, Nat.add_mul])]
                                rw [this]
                                exact hr.append hE.rel
                              let W : World := { w with drawn := w.drawn + 1 }
                              have hsize : newCap * sz ≤ c'.size := by
                                simp only [c', List.size_toArray, List.length_append, hol, hvl, hn2]
                                rw [← Nat.add_mul, ← Nat.add_mul]
                                exact Nat.le_of_eq (by congr 1; omega)
                              obtain ⟨hle', hinv⟩ := I.growRows (B' := w.heap.size) (cap := newCap) (w' := W.alloc (.cells c' elem)) (es' := es ++ xs) hσ hR
                                (fun b' B h1 h2 => ⟨alloc_old W _ (I.at_heap h1), fun e => by have := I.at_heap h1; omega⟩)
                                (fun B o v hi => by
                                  have := I.im B o v hi
                                  have h3 := alloc_old W (.cells c' elem) (I.im_heap hi)
                                  simpa [World.cell?, h3] using this) hb (fun o => by
                                  cases hi : R.im w.heap.size o with
                                  | none => rfl
                                  | some v => have := I.im_heap hi; omega) (by simpa using hn1) hall' (alloc_get W _) hsize hrel
                              refine ⟨_, _, _, hrun, ⟨hle', hinv, (Step.drew I).below.trans (below_alloc (w := W) hb _), fun _ _ _ h h' => absurd (show R.im _ _ = some _ from h) (by simp [h']), fun b' hb' => List.getElem?_set_ne (by omega), by simp, fun _ _ => rfl, fun b' h1 _ => by simp only [Ren.withRows]; rw [if_neg (by omega)], fun b' _ hn => by
                                simp only [Ren.withRows]; rw [if_neg (fun e => by subst e; rw [hR] at hn; cases hn)]; exact hn⟩, ?_⟩
                              have := VRel.sl (R := R.withRows b ⟨w.heap.size, sz, newCap, r.gen + 1⟩) (b := b) (r := ⟨w.heap.size, sz, newCap, r.gen + 1⟩) 0 (es.length + xs.length) (some ⟨w.heap.size, 0 * sz, none⟩) (by simp [Ren.withRows]) (by simpa using hn1) (fun _ => rfl)
                              simpa using this
                          · cases h
                        · split at h
                          · -- over what stands there
                            rename_i hend hin
                            cases h
                            have hroom : len + xs.length ≤ r.cap - off := by omega
                            have hrun := append_room (type := type) (base' := q) (cap := cap) h0 h1 hu hxu hsz hE rfl hroom
                            have hq := hp (by omega)
                            subst hq
                            have hmul : (off + len) * sz + vals.length ≤ es.length * sz := by
                              have : (off + len + xs.length) * sz ≤ es.length * sz := Nat.mul_le_mul_right _ hin
                              rw [Nat.add_mul] at this; omega
                            have hst := run_storeCells_at P r.blk ((off + len) * sz) T vals 0 c w hw (by omega) hone
                            simp only [Nat.add_zero] at hst
                            let c' := (c.toList.take ((off + len) * sz) ++ vals ++ c.toList.drop ((off + len) * sz + vals.length)).toArray
                            have hall' : ∀ e ∈ es.take (off + len) ++ xs ++ es.drop (off + len + xs.length), e.cells.length = sz := fun e he' => by
                              rcases List.mem_append.1 he' with h' | h'
                              · rcases List.mem_append.1 h' with h' | h'
                                · exact hes e (List.mem_of_mem_take h')
                                · exact hE.len e h'
                              · exact hes e (List.mem_of_mem_drop h')
                            have hlen' : (es.take (off + len) ++ xs ++ es.drop (off + len + xs.length)).length = es.length := by simp; omega
                            have hflat : (es.take (off + len) ++ xs ++ es.drop (off + len + xs.length)).flatMap AV.cells = splice (es.flatMap AV.cells) ((off + len) * sz) (xs.flatMap AV.cells) := by
                              have e1 := flat_sub hes 0 (off + len)
                              have e2 := flat_sub hes (off + len + xs.length) es.length
                              simp only [List.drop_zero, Nat.zero_mul] at e1
                              rw [List.take_of_length_le (by rw [List.length_drop]; omega)] at e2
                              rw [List.take_of_length_le (by rw [List.length_drop, flat_length hes]; omega)] at e2
                              simp only [List.flatMap_append, e1, e2, splice, flat_length hE.len]
                              rw [Nat.add_mul (off + len)]
                            have hrel : VRels R ((es.take (off + len) ++ xs ++ es.drop (off + len + xs.length)).flatMap AV.cells) (c'.toList.take ((es.take (off + len) ++ xs ++ es.drop (off + len + xs.length)).length * sz)) := by
                              rw [hflat, hlen']
                              have h2 := splice_rel (off := (off + len) * sz) hr hE.rel
                              simp only [c', List.toList_toArray]
                              rw [take_mid c.toList vals hmul (by simp; omega)]
                              exact h2
                            have hstep := Step.setRows (w := w) (c := c) (c' := c') I hlb hσ hR hw (by rw [hlen']; exact hcape) hall' (by
                              simp [c']; omega) hrel
                            refine ⟨.slice (some ⟨r.blk, off * r.sz, none⟩) (len + xs.length) (r.cap - off), w.setRow r.blk c', R, ?_, hstep, .sl _ _ _ hR (by omega) (fun _ => rfl)⟩
                            rw [hrun]
                            simp only [Sem.run_bind, addr_add]
                            rw [show off * r.sz + len * sz = (off + len) * sz by rw [hrs, Nat.add_mul], hst]
                            simp only [Result.andThen_ok, Sem.run_pure, c']
                          · cases h
                  · cases h
                · cases h
              · cases h
            · cases h
          · cases h
        · cases h
      · cases h
    · cases h
  · cases h
end Go.Abs

namespace Go.Abs
open Go.RowKit (Below)

variable {P : Program} {R : Ren} {σ : Sto} {w : World} {lo base : Nat}

theorem len_run {argTypes : Array TypeId} {type : TypeId} {x a : AV} {v : Value} (h : lenOfA P argTypes x = some a) (hv : VRel R x v) : ∃ u, (Builtin.len_ argTypes type #[v]).run P w = .ok u w ∧ VRel R a u := by
  unfold lenOfA at h
  split at h
  · rename_i t ht
    split at h
    · rename_i s hu
      cases h
      cases hv
      exact ⟨.int .i64 s.size, by simp [Builtin.len_, ht, run_under hu, goInt, Sem.run_pure], .int _ _⟩
    · rename_i n e hu
      cases h
      exact ⟨.int .i64 n, by simp [Builtin.len_, ht, run_under hu, goInt, Sem.run_pure], .int _ _⟩
    · rename_i e hu
      simp only [Option.map_eq_some_iff] at h
      obtain ⟨n, hn, rfl⟩ := h
      have : ∃ p c, v = .slice p n c := by
        unfold lenA at hn
        split at hn
        · cases hn
          cases hv with
          | list0 _ p c _ => exact ⟨p, c, rfl⟩
          | list _ sz c _ _ _ => exact ⟨_, c, rfl⟩
        · cases hn
          cases hv with
          | sl _ _ p _ _ _ => exact ⟨p, _, rfl⟩
          | slOld _ _ p c _ _ => exact ⟨p, c, rfl⟩
        · cases hn
          cases hv with
          | bsl _ _ c p _ _ _ => exact ⟨p, c, rfl⟩
        · cases hn
      obtain ⟨p, c, rfl⟩ := this
      exact ⟨.int .i64 n, by simp [Builtin.len_, ht, run_under hu, goInt, Sem.run_pure], .int _ _⟩
    · cases h
  · cases h

theorem mm_run {mx : Bool} {argTypes : Array TypeId} {type : TypeId} {as : List AV} {a : AV} {vs : List Value} (h : mmA P mx as = some a) (hv : VRels R as vs) :
    ∃ u, (if mx then Builtin.max_ argTypes type vs.toArray else Builtin.min_ argTypes type vs.toArray).run P w = .ok u w ∧ VRel R a u := by
  unfold mmA at h
  split at h
  · rename_i us hus
    have := concs_eq hv hus
    subst this
    obtain ⟨v, hr, hrel⟩ := scalarA_run (R := R) h
    refine ⟨v, ?_, hrel⟩
    have := hr w
    cases mx <;> simpa [Builtin.max_, Builtin.min_] using this
  · cases h

theorem un_run {op : UnOp} {x a : AV} {v : Value} (h : unA P op x = some a) (hv : VRel R x v) : ∃ u, (Op.unary op v).run P w = .ok u w ∧ VRel R a u := by
  unfold unA at h
  split at h
  · rename_i u hu
    have := conc_eq hv hu
    subst this
    obtain ⟨y, hr, hrel⟩ := scalarA_run (R := R) h
    exact ⟨y, hr w, hrel⟩
  · cases h

theorem conv_run {s d : TypeId} {x a : AV} {v : Value} (h : convA P s d x = some a) (hv : VRel R x v) : ∃ u, (convert s d v).run P w = .ok u w ∧ VRel R a u := by
  unfold convA at h
  split at h
  · rename_i u hu
    have := conc_eq hv hu
    subst this
    obtain ⟨y, hr, hrel⟩ := scalarA_run (R := R) h
    exact ⟨y, hr w, hrel⟩
  · cases h

theorem isPtr_rel {x : AV} {v : Value} (h : x.isPtr = true) (hv : VRel R x v) : ∃ a, v = .pointer (some a) := by
  cases hv <;> simp [AV.isPtr] at h <;> exact ⟨_, rfl⟩

theorem nilEq_in {t : TypeId} {a b : AV} {u v : Value} (d : Nat) (h : nilEqA P t a b = true) (ha : VRel R a u) (hb : VRel R b v) :
    (Op.equalIn (d + 1) t u v).run P w = .ok false w ∧ (∀ op x y, (eqGuard op t x y u v).run P w = .ok () w) ∧ (∀ op, op = .eql ∨ op = .neq → binOp op t u v = if op = .eql then (do pure (.bool (← Op.equal t u v))) else (do pure (.bool (!(← Op.equal t u v))))) := by
  unfold nilEqA at h
  split at h
  · rename_i hu
    obtain ⟨x, rfl⟩ := isPtr_rel h ha
    cases hb
    refine ⟨?_, fun op x y => ?_, fun op ho => ?_⟩
    · simp only [Op.equalIn, Sem.run_bind, run_under hu, Result.andThen_ok, Sem.run_pure]
    · simp only [eqGuard]; split <;> rfl
    · rcases ho with rfl | rfl <;> rfl
  · rename_i hu
    obtain ⟨x, rfl⟩ := isPtr_rel h hb
    cases ha
    refine ⟨?_, fun op x y => ?_, fun op ho => ?_⟩
    · simp only [Op.equalIn, Sem.run_bind, run_under (by assumption), Result.andThen_ok, Sem.run_pure]; rfl
    · simp only [eqGuard]; split <;> rfl
    · rcases ho with rfl | rfl <;> rfl
  · cases ha; cases hb
    refine ⟨?_, fun op x y => ?_, fun op ho => ?_⟩
    · simp only [Op.equalIn, Sem.run_bind, run_under (by assumption), Result.andThen_ok, Sem.run_pure]
    · simp only [eqGuard]; split <;> rfl
    · rcases ho with rfl | rfl <;> rfl
  · cases ha; cases hb
    refine ⟨?_, fun op x y => ?_, fun op ho => ?_⟩
    · simp only [Op.equalIn, Sem.run_bind, run_under (by assumption), Result.andThen_ok, Sem.run_pure]
    · simp only [eqGuard]; split <;> rfl
    · rcases ho with rfl | rfl <;> rfl
  · cases h

theorem nilEq_run {t : TypeId} {a b : AV} {u v : Value} (h : nilEqA P t a b = true) (ha : VRel R a u) (hb : VRel R b v) :
    (Op.equal t u v).run P w = .ok false w ∧ (∀ op x y, (eqGuard op t x y u v).run P w = .ok () w) ∧ binOp .eql t u v = (do pure (.bool (← Op.equal t u v))) ∧ binOp .neq t u v = (do pure (.bool (!(← Op.equal t u v)))) := by
  obtain ⟨h1, h2, h3⟩ := nilEq_in (w := w) 9999 h ha hb
  exact ⟨h1, h2, h3 .eql (.inl rfl), h3 .neq (.inr rfl)⟩

theorem bin_run {op : BinOp} {t : TypeId} {x y : Operand} {a b r : AV} {u v : Value} (h : binA P op t x y a b = some r) (ha : VRel R a u) (hb : VRel R b v) :
    ∃ z, (do eqGuard op t x y u v; binOp op t u v : Sem Value).run P w = .ok z w ∧ VRel R r z := by
  unfold binA at h
  split at h
  · rename_i hc
    obtain ⟨rfl, hn⟩ := hc
    cases h
    obtain ⟨h1, h2, h3, _⟩ := nilEq_run (w := w) hn ha hb
    exact ⟨.bool false, by rw [h3]; simp only [Sem.run_bind, h2, h1, Result.andThen_ok, Sem.run_pure], .bool _⟩
  · split at h
    · rename_i hc
      obtain ⟨rfl, hn⟩ := hc
      cases h
      obtain ⟨h1, h2, _, h3⟩ := nilEq_run (w := w) hn ha hb
      exact ⟨.bool true, by rw [h3]; simp only [Sem.run_bind, h2, h1, Result.andThen_ok, Sem.run_pure]; rfl, .bool _⟩
    · split at h
      · rename_i u' v' hu hv
        have e1 := conc_eq ha hu
        have e2 := conc_eq hb hv
        subst e1; subst e2
        obtain ⟨z, hr, hrel⟩ := scalarA_run (R := R) h
        exact ⟨z, hr w, hrel⟩
      · cases h
end Go.Abs

namespace Go.Abs
open Go.RowKit (Below)

variable {P : Program} {R : Ren} {σ : Sto} {w : World} {lo base : Nat}

theorem flat_mid {es xs : List AV} {sz off : Nat} (hes : ∀ e ∈ es, e.cells.length = sz) (hxs : ∀ e ∈ xs, e.cells.length = sz) :
    (es.take off ++ xs ++ es.drop (off + xs.length)).flatMap AV.cells = splice (es.flatMap AV.cells) (off * sz) (xs.flatMap AV.cells) := by
  have e1 := flat_sub hes 0 off
  have e2 := flat_sub hes (off + xs.length) es.length
  simp only [List.drop_zero, Nat.zero_mul] at e1
  rw [List.take_of_length_le (by rw [List.length_drop]; omega)] at e2
  rw [List.take_of_length_le (by rw [List.length_drop, flat_length hes]; omega)] at e2
  simp only [List.flatMap_append, e1, e2, splice, flat_length hxs]
  rw [Nat.add_mul off]

/-- Some elements of open rows are written over. -/
theorem over_rows (I : Inv R σ w lo base) {b g off : Nat} {es xs : List AV} {sz : Nat} {r : RRow} {vals : List Value} (hlb : lo ≤ b) (hσ : σ[b]? = some (.rows es g sz false)) (hR : R.rows b = some r)
    (hrel : VRels R (xs.flatMap AV.cells) vals) (hxs : ∀ e ∈ xs, e.cells.length = sz) (hone : ∀ v ∈ vals, v.oneCell' = true) (hle : off + xs.length ≤ es.length) :
    ∃ w', (storeCells ⟨r.blk, off * sz, none⟩ vals).run P w = .ok () w' ∧ Step R σ w lo base R (σ.set b (.rows (es.take off ++ xs ++ es.drop (off + xs.length)) g sz false)) w' := by
  obtain ⟨_, hrs, _, hcape, hes, c, T, hw, hcs, hr, _⟩ := I.rows b es _ sz false hσ r hR
  have hvl : vals.length = xs.length * sz := by rw [← hrel.length, flat_length hxs]
  have hesz : es.length * sz ≤ c.size := Nat.le_trans (Nat.mul_le_mul_right _ hcape) hcs
  have hmul : off * sz + vals.length ≤ es.length * sz := by
    have : (off + xs.length) * sz ≤ es.length * sz := Nat.mul_le_mul_right _ hle
    rw [Nat.add_mul] at this; omega
  have hst := run_storeCells_at P r.blk (off * sz) T vals 0 c w hw (by omega) hone
  simp only [Nat.add_zero] at hst
  have hlen' : (es.take off ++ xs ++ es.drop (off + xs.length)).length = es.length := by simp; omega
  refine ⟨_, hst, Step.setRows (w := w) (c := c) I hlb hσ hR hw (by rw [hlen']; exact hcape) (fun e he' => ?_) (by simp; omega) ?_⟩
  · rcases List.mem_append.1 he' with h' | h'
    · rcases List.mem_append.1 h' with h' | h'
      · exact hes e (List.mem_of_mem_take h')
      · exact hxs e h'
    · exact hes e (List.mem_of_mem_drop h')
  · rw [flat_mid hes hxs, hlen']
    have h2 := splice_rel (off := off * sz) hr hrel
    simp only [List.toList_toArray]
    rw [take_mid c.toList vals hmul (by simp; omega)]
    exact h2

theorem copy_run (I : Inv R σ w lo base) {argTypes : Array TypeId} {type : TypeId} {d x a : AV} {σ' : Sto} {dv xv : Value} (h : copyA P lo σ argTypes d x = some (a, σ')) (hd : VRel R d dv) (hx : VRel R x xv) :
    ∃ u w', (Builtin.copy_ argTypes type #[dv, xv]).run P w = .ok u w' ∧ Step R σ w lo base R σ' w' ∧ VRel R a u := by
  unfold copyA at h
  split at h
  · rename_i dT h0
    split at h
    · rename_i elem hu
      split at h
      · rename_i size hsz
        split at h
        · rename_i xs hxs
          split at h
          · rename_i hcells
            obtain ⟨p, cap, vals, rfl, hE⟩ := elems_rel I hxs hx
            have hone := oneCells hE.rel hcells
            have hvl : vals.length = xs.length * size := by rw [← hE.rel.length, flat_length hE.len]
            have hrun : ∀ (q : Option Addr) (len c : Nat), (Builtin.copy_ argTypes type #[.slice q len c, .slice p xs.length cap]).run P w =
                (match q with | some y => (do storeCells y (vals.take (min xs.length len * size)); pure (Value.int .i64 (min xs.length len : Nat)) : Sem Value) | none => pure (Value.int .i64 (min xs.length len : Nat))).run P w := by
              intro q len c
              have hf := first_run (P := P) hE cap (Nat.min_le_left xs.length len) w (fun _ => rfl)
              simp only [Builtin.copy_, h0]
              simp only [List.getElem?_toArray, List.getElem?_cons_zero, List.getElem?_cons_succ, Sem.run_bind, run_under hu, Result.andThen_ok, Sem.run_pure, lenOf_slice, run_szOf hsz]
              have hmin : xs.length.min len = min xs.length len := rfl
              rw [hmin, hf]
              cases q <;> simp [goInt]
            have hxe : ∀ k, (xs.take k).flatMap AV.cells = (xs.flatMap AV.cells).take (k * size) := fun k => by
              have := flat_sub hE.len 0 k
              simpa using this
            have hml : ∀ len, (xs.take len).length = min xs.length len := fun len => by simp [Nat.min_comm]
            have hmk : ∀ len, xs.take len = xs.take (min xs.length len) := fun len => by
              rcases Nat.le_total len xs.length with h | h
              · rw [Nat.min_eq_right h]
              · rw [Nat.min_eq_left h, List.take_of_length_le h, List.take_length]
            have htake : ∀ len, VRels R ((xs.take len).flatMap AV.cells) (vals.take (min xs.length len * size)) := fun len => by
              rw [hmk len, hxe]; exact hE.rel.take _
            have hone' : ∀ k, ∀ v ∈ vals.take k, v.oneCell' = true := fun k v hv => hone v (List.mem_of_mem_take hv)
            have hlen' : ∀ len, ∀ e ∈ xs.take len, e.cells.length = size := fun len e he => hE.len e (List.mem_of_mem_take he)
            split at h
            · rename_i b g off len
              split at h
              · rename_i es g' sz hσ
                split at h
                · rename_i hc
                  obtain ⟨rfl, rfl, hlb, hle, hpos⟩ := hc
                  cases h
                  cases hd with
                  | slOld _ _ q c hR hlt =>
                    rename_i r
                    obtain ⟨hgen, _⟩ := I.rows b es _ sz false hσ r hR
                    omega
                  | sl _ _ q hR hcap hp =>
                    rename_i r
                    obtain ⟨_, hrs, _, hcape, _⟩ := I.rows b es _ sz false hσ r hR
                    have hq := hp (by omega)
                    subst hq
                    obtain ⟨w', hw', hst⟩ := over_rows (P := P) I (off := off) hlb hσ hR (htake len) (hlen' len) (hone' _) (by rw [hml]; omega)
                    refine ⟨.int .i64 (min xs.length len : Nat), w', ?_, by rw [hml] at hst; exact hst, .int _ _⟩
                    rw [hrun]
                    simp only [Sem.run_bind, hrs, hw', Result.andThen_ok, Sem.run_pure]
                · cases h
              · cases h
            · rename_i b off len
              split at h
              · rename_i cs hσ
                split at h
                · rename_i hc
                  obtain ⟨rfl, hlb, hle, hpos, hcell⟩ := hc
                  cases h
                  cases hd with
                  | bsl _ _ c q hB hcap hp =>
                    rename_i B
                    have hq := hp hpos
                    subst hq
                    obtain ⟨c', T, hw, hr, _⟩ := I.box b cs false hσ B hB
                    have hcl : c'.toList.length = cs.length := hr.length.symm
                    have hflat : (xs.take len).flatMap AV.cells = xs.take len := by
                      have hone2 : ∀ e ∈ xs.take len, e.cells = [e] := fun e he => cells_of_isCell (List.all_eq_true.1 hcell e (List.mem_of_mem_take he))
                      generalize xs.take len = l at hone2
                      induction l with
                      | nil => simp
                      | cons d l ih => simp [hone2 d (by simp), ih (fun e he => hone2 e (by simp [he]))]
                    have hrel := htake len
                    rw [hflat] at hrel
                    have hvt : (vals.take (min xs.length len * 1)).length = min xs.length len := by rw [← hrel.length, hml]
                    have hst := run_storeCells_at P B off T (vals.take (min xs.length len * 1)) 0 c' w hw (by simp at hcl; omega) (hone' _)
                    simp only [Nat.add_zero] at hst
                    have h2 := splice_rel (off := off) hr hrel
                    refine ⟨.int .i64 (min xs.length len : Nat), w.setRow B (c'.toList.take off ++ vals.take (min xs.length len * 1) ++ c'.toList.drop (off + (vals.take (min xs.length len * 1)).length)).toArray, ?_, Step.setBox I hlb hσ hB hw ?_, .int _ _⟩
                    · rw [hrun]
                      simp only [Sem.run_bind, hst, Result.andThen_ok, Sem.run_pure]
                    · unfold splice at h2
                      rw [hml] at h2
                      simpa using h2
                · cases h
              · cases h
            · cases h
          · cases h
        · cases h
      · cases h
    · cases h
  · cases h

theorem clear_run (I : Inv R σ w lo base) {argTypes : Array TypeId} {type : TypeId} {d a : AV} {σ' : Sto} {dv : Value} (h : clearA P lo σ argTypes d = some (a, σ')) (hd : VRel R d dv) :
    ∃ u w', (Builtin.clear_ argTypes type #[dv]).run P w = .ok u w' ∧ Step R σ w lo base R σ' w' ∧ VRel R a u := by
  unfold clearA at h
  split at h
  · rename_i dT h0
    split at h
    · rename_i elem hu
      split at h
      · rename_i size z b g off len hsz hz
        split at h
        · rename_i es g' sz hσ
          split at h
          · rename_i hc
            obtain ⟨rfl, rfl, hlb, hle, hzl, hzc, hpos⟩ := hc
            cases h
            cases hd with
            | slOld _ _ q c hR hlt =>
              rename_i r
              obtain ⟨hgen, _⟩ := I.rows b es _ sz false hσ r hR
              omega
            | sl _ _ q hR hcap hp =>
              rename_i r
              obtain ⟨_, hrs, hszp, hcape, _⟩ := I.rows b es _ sz false hσ r hR
              have hq := hp (by omega)
              subst hq
              obtain ⟨ie, zv, hie, hzv, hzr, hno⟩ := zero_info hz
              have hzcv := (hzr R).cells hno
              have hzs : zv.cells.size = sz := by have := hzcv.length; simp at this; omega
              have hzz : ∀ W, (zeroValue elem).run P W = .ok zv W := fun W => by simp [zeroValue, typeInfo, program, hie, hzv, Sem.run]
              have hrel0 := zeros_rel hzcv hzl hszp len (len * sz) (Nat.le_refl _)
              rw [List.take_of_length_le (by simp)] at hrel0
              have hrep : ∀ e ∈ List.replicate len z, e.cells.length = sz := fun e he => by rw [List.eq_of_mem_replicate he]; exact hzl
              have hzeros : (Builtin.zeroCells zv.cells len) = (Array.range (len * sz)).map (zv.cells[· % zv.cells.size]!) := by simp [Builtin.zeroCells, hzs]
              have hone : ∀ v ∈ ((Array.range (len * sz)).map (zv.cells[· % zv.cells.size]!)).toList, v.oneCell' = true := hrel0.oneCell (by
                rw [List.all_eq_true]
                intro a ha
                obtain ⟨e, he, ha⟩ := List.mem_flatMap.1 ha
                rw [List.eq_of_mem_replicate he] at ha
                exact List.all_eq_true.1 hzc a ha)
              obtain ⟨w', hw', hst⟩ := over_rows (P := P) I (off := off) hlb hσ hR hrel0 hrep hone (by simpa using hle)
              refine ⟨.tuple #[], w', ?_, by simpa using hst, .tuple .nil⟩
              cases len with
              | zero => omega
              | succ n =>
                simp only [Builtin.clear_, h0]
                simp only [List.getElem?_toArray, List.getElem?_cons_zero, Sem.run_bind, run_under hu, Result.andThen_ok, Sem.run_pure, hzz, hzeros, hrs, hw']
          · cases h
        · cases h
      · cases h
    · cases h
  · cases h
end Go.Abs

namespace Go.Abs
open Go.RowKit (Below)

variable {P : Program} {R : Ren} {σ : Sto} {w : World} {lo base : Nat}

def SnapOk (f : Sto → AV → Option (AV × Sto)) (lo : Nat) : Prop := ∀ {σ : Sto} {a a' : AV} {σ' : Sto}, f σ a = some (a', σ') → ∀ {R : Ren} {w : World} {base : Nat} {v : Value}, Inv R σ w lo base → VRel R a v → ∃ R', Step R σ w lo base R' σ' w ∧ VRel R' a' v ∧ (a.cells.length = a'.cells.length)

theorem snapsW_ok {f : Sto → AV → Option (AV × Sto)} (hf : SnapOk f lo) : ∀ {as as' : List AV} {σ σ' : Sto} {vs : List Value} {R : Ren} {w : World} {base : Nat}, snapsW f σ as = some (as', σ') → Inv R σ w lo base → VRels R as vs →
    ∃ R', Step R σ w lo base R' σ' w ∧ VRels R' as' vs
  | [], as', σ, σ', vs, R, w, base, h, I, hv => by
    simp [snapsW] at h; obtain ⟨rfl, rfl⟩ := h
    exact ⟨R, .refl I, hv⟩
  | a :: as, as', σ, σ', _, R, w, base, h, I, .cons h1 h2 => by
    simp only [snapsW] at h
    cases e1 : f σ a with
    | none => simp [e1] at h
    | some p =>
      obtain ⟨a1, σ1⟩ := p
      simp only [e1] at h
      cases e2 : snapsW f σ1 as with
      | none => simp [e2] at h
      | some q =>
        obtain ⟨as1, σ2⟩ := q
        simp [e2] at h
        obtain ⟨rfl, rfl⟩ := h
        obtain ⟨R1, s1, r1, _⟩ := hf e1 I h1
        obtain ⟨R2, s2, r2⟩ := snapsW_ok hf e2 s1.inv (h2.mono s1.le)
        exact ⟨R2, s1.trans s2, .cons (r1.mono s2.le) r2⟩

theorem snapsW_length {f : Sto → AV → Option (AV × Sto)} : ∀ {as as' : List AV} {σ σ' : Sto}, snapsW f σ as = some (as', σ') → as'.length = as.length
  | [], as', σ, σ', h => by simp [snapsW] at h; obtain ⟨rfl, rfl⟩ := h; rfl
  | a :: as, as', σ, σ', h => by
    simp only [snapsW] at h
    cases e1 : f σ a with
    | none => simp [e1] at h
    | some p =>
      obtain ⟨a1, σ1⟩ := p
      simp only [e1] at h
      cases e2 : snapsW f σ1 as with
      | none => simp [e2] at h
      | some q =>
        obtain ⟨as1, σ2⟩ := q
        simp [e2] at h
        obtain ⟨rfl, rfl⟩ := h
        simp [snapsW_length e2]

/-- Cells of memory that stays as it is, snapped in their place. -/
theorem snapsW_cells {f : Sto → AV → Option (AV × Sto)} (hf : SnapOk f lo) : ∀ {as as' : List AV} {σ σ' : Sto} {R : Ren} {w : World} {base B o : Nat}, snapsW f σ as = some (as', σ') → Inv R σ w lo base → CellsAt R as B o →
    ∃ R', Step R σ w lo base R' σ' w ∧ CellsAt R' as' B o
  | [], as', σ, σ', R, w, base, B, o, h, I, hv => by
    simp [snapsW] at h; obtain ⟨rfl, rfl⟩ := h
    exact ⟨R, .refl I, hv⟩
  | a :: as, as', σ, σ', R, w, base, B, o, h, I, .cons he h1 h2 => by
    simp only [snapsW] at h
    cases e1 : f σ a with
    | none => simp [e1] at h
    | some p =>
      obtain ⟨a1, σ1⟩ := p
      simp only [e1] at h
      cases e2 : snapsW f σ1 as with
      | none => simp [e2] at h
      | some q =>
        obtain ⟨as1, σ2⟩ := q
        simp [e2] at h
        obtain ⟨rfl, rfl⟩ := h
        obtain ⟨R1, s1, r1, _⟩ := hf e1 I h1
        obtain ⟨R2, s2, r2⟩ := snapsW_cells hf e2 s1.inv (h2.mono s1.le)
        exact ⟨R2, s1.trans s2, .cons (s2.le.im _ _ _ (s1.le.im _ _ _ he)) (r1.mono s2.le) r2⟩

def ElemOk (f : Sto → AV → Option (AV × Sto)) (lo : Nat) : Prop := ∀ {σ : Sto} {a a' : AV} {σ' : Sto}, f σ a = some (a', σ') → ∀ {R : Ren} {w : World} {base B o : Nat}, Inv R σ w lo base → CellsAt R a.cells B o →
  ∃ R', Step R σ w lo base R' σ' w ∧ CellsAt R' a'.cells B o ∧ a'.cells.length = a.cells.length

theorem snapsW_elems {f : Sto → AV → Option (AV × Sto)} (hf : ElemOk f lo) : ∀ {as as' : List AV} {σ σ' : Sto} {R : Ren} {w : World} {base B o sz : Nat}, snapsW f σ as = some (as', σ') → Inv R σ w lo base → ElemsAt R as sz B o →
    ∃ R', Step R σ w lo base R' σ' w ∧ ElemsAt R' as' sz B o
  | [], as', σ, σ', R, w, base, B, o, sz, h, I, hv => by
    simp [snapsW] at h; obtain ⟨rfl, rfl⟩ := h
    exact ⟨R, .refl I, hv⟩
  | a :: as, as', σ, σ', R, w, base, B, o, sz, h, I, .cons hl h1 h2 => by
    simp only [snapsW] at h
    cases e1 : f σ a with
    | none => simp [e1] at h
    | some p =>
      obtain ⟨a1, σ1⟩ := p
      simp only [e1] at h
      cases e2 : snapsW f σ1 as with
      | none => simp [e2] at h
      | some q =>
        obtain ⟨as1, σ2⟩ := q
        simp [e2] at h
        obtain ⟨rfl, rfl⟩ := h
        obtain ⟨R1, s1, r1, l1⟩ := hf e1 I h1
        obtain ⟨R2, s2, r2⟩ := snapsW_elems hf e2 s1.inv (h2.mono s1.le)
        exact ⟨R2, s1.trans s2, .cons (by omega) (r1.mono s2.le) r2⟩

theorem Inv.boxKnown (I : Inv R σ w lo base) {b : Nat} {cs : List AV} {fz : Bool} (hσ : σ[b]? = some (.box cs fz)) (hlo : fz = true ∨ lo ≤ b) {B : Nat} (hB : R.box b = some B) :
    ∃ R', Step R σ w lo base R' (σ.set b (.box cs true)) w ∧ CellsAt R' cs B 0 := by
  obtain ⟨R', c, T, hst, hw, hv, him⟩ := Step.freezeBox I hσ hB hlo
  refine ⟨R', hst, CellsAt.of_get fun i a ha => ?_⟩
  obtain ⟨u, hu, hr⟩ := hv.get ha
  exact ⟨u, by rw [Nat.zero_add]; exact him i u (by simpa using hu), hr.mono hst.le⟩

theorem CellsAt.sub {cs : List AV} {B o : Nat} (h : CellsAt R cs B o) (l n : Nat) : CellsAt R ((cs.drop l).take n) B (o + l) :=
  CellsAt.of_get fun i a ha => by
    rw [List.getElem?_take] at ha
    split at ha
    · rw [List.getElem?_drop] at ha
      obtain ⟨u, hu, hr⟩ := h.get ha
      exact ⟨u, by rw [show o + l + i = o + (l + i) by omega]; exact hu, hr⟩
    · cases ha

theorem elems_of_scalars {B o : Nat} {cs : List AV} (h : CellsAt R cs B o) (hc : ∀ e ∈ cs, e.cells = [e]) : ElemsAt R cs 1 B o :=
  ElemsAt.of_get fun i e he => by
    obtain ⟨u, hu, hr⟩ := h.get he
    rw [hc e (List.mem_of_getElem? he)]
    exact ⟨rfl, .cons (by rw [show o + i * 1 = o + i by omega]; exact hu) hr (.nil _ _)⟩

theorem snap_ok : ∀ (d : Nat), SnapOk (snap lo d) lo ∧ ElemOk (snap lo d) lo
  | 0 => ⟨fun h => by simp [snap] at h, fun h => by simp [snap] at h⟩
  | d + 1 => by
    obtain ⟨ih1, ih2⟩ := snap_ok d
    -- a scalar keeps its one cell
    have key : ∀ {σ : Sto} {a a' : AV} {σ' : Sto}, snap lo (d + 1) σ a = some (a', σ') → (∀ cs, a ≠ .agg cs) → ∀ {R : Ren} {w : World} {base : Nat} {v : Value}, Inv R σ w lo base → VRel R a v → ∃ R', Step R σ w lo base R' σ' w ∧ VRel R' a' v ∧ a'.cells = [a'] := by
      intro σ a a' σ' h hna R w base v I hv
      simp only [snap] at h
      split at h
      · cases h
        refine ⟨R, .refl I, ?_, rfl⟩
        cases hv with
        | list0 _ p c _ => exact .list0 _ _ _ (by simp)
        | list _ sz c hE hl _ => exact .list _ sz c hE hl (by simp)
      · rename_i b g off len
        split at h
        · rename_i es g' sz fz hσ
          split at h
          · rename_i hc
            obtain ⟨rfl, hle, hlo⟩ := hc
            cases e1 : snapsW (snap lo d) (σ.set b (.rows es g' sz true)) ((es.drop off).take len) with
            | none => simp [e1] at h
            | some q =>
              obtain ⟨es', σ1⟩ := q
              simp [e1] at h
              obtain ⟨rfl, rfl⟩ := h
              cases hv with
              | slOld _ _ p c hR hlt =>
                rename_i r
                obtain ⟨hgen, _⟩ := I.rows b es _ sz fz hσ r hR
                omega
              | sl _ _ p hR hcap hp =>
                rename_i r
                obtain ⟨_, hrs, hpos, hcape, hes, _⟩ := I.rows b es _ sz fz hσ r hR
                obtain ⟨R1, c, T, hst, hw, hrel, him, hbx, hrw⟩ := Step.freezeRows I hσ hR hlo
                have hE : ElemsAt R1 es sz r.blk 0 := elems_of_cells hes (hrel.mono hst.le) (fun o u hu => by
                  rw [List.getElem?_take] at hu
                  split at hu
                  · exact him o u (by assumption) (by simpa using hu)
                  · cases hu)
                obtain ⟨R2, hst2, hE2⟩ := snapsW_elems ih2 e1 hst.inv (hE.sub off len)
                have hlen : es'.length = len := by rw [snapsW_length e1]; simp; omega
                refine ⟨R2, hst.trans hst2, ?_, rfl⟩
                by_cases h0 : len = 0
                · subst h0
                  have : es' = [] := List.length_eq_zero_iff.1 hlen
                  subst this
                  exact .list0 _ _ _ (by simp)
                · have hq := hp (by omega)
                  subst hq
                  have := VRel.list false (R := R2) sz (r.cap - off) hE2 (by omega) (by simp)
                  rw [hlen] at this
                  rw [hrs]
                  simpa using this
          · cases h
        · cases h
      · rename_i b off len
        split at h
        · rename_i cs fz hσ
          split at h
          · rename_i hc
            obtain ⟨hle, hlo, hcl⟩ := hc
            cases e1 : snapsW (snap lo d) (σ.set b (.box cs true)) ((cs.drop off).take len) with
            | none => simp [e1] at h
            | some q =>
              obtain ⟨es', σ1⟩ := q
              simp [e1] at h
              obtain ⟨rfl, rfl⟩ := h
              cases hv with
              | bsl _ _ cap p hB hcap hp =>
                obtain ⟨R1, hst, hC⟩ := I.boxKnown hσ hlo hB
                have hE := elems_of_scalars (hC.sub off len) (fun e he => cells_of_isCell (List.all_eq_true.1 hcl e (List.mem_of_mem_drop (List.mem_of_mem_take he))))
                obtain ⟨R2, hst2, hE2⟩ := snapsW_elems ih2 e1 hst.inv hE
                have hlen : es'.length = len := by rw [snapsW_length e1]; simp; omega
                refine ⟨R2, hst.trans hst2, ?_, rfl⟩
                by_cases h0 : len = 0
                · subst h0
                  have : es' = [] := List.length_eq_zero_iff.1 hlen
                  subst this
                  exact .list0 _ _ _ (by simp)
                · have hq := hp (by omega)
                  subst hq
                  have := VRel.list false (R := R2) 1 cap hE2 (by omega) (by simp)
                  rw [hlen] at this
                  simpa using this
          · cases h
        · cases h
      · rename_i cs
        exact absurd rfl (hna cs)
      · rename_i cs
        cases e1 : snapsW (snap lo d) σ cs with
        | none => simp [e1] at h
        | some q =>
          obtain ⟨cs', σ1⟩ := q
          simp [e1] at h
          obtain ⟨rfl, rfl⟩ := h
          cases hv with
          | tuple hc =>
            obtain ⟨R1, hst, hr⟩ := snapsW_ok ih1 e1 I hc
            exact ⟨R1, hst, .tuple hr, rfl⟩
      · rename_i t y
        cases e1 : snap lo d σ y with
        | none => simp [e1] at h
        | some q =>
          obtain ⟨y', σ1⟩ := q
          simp [e1] at h
          obtain ⟨rfl, rfl⟩ := h
          cases hv with
          | iface _ hy =>
            obtain ⟨R1, hst, hr, _⟩ := ih1 e1 I hy
            exact ⟨R1, hst, .iface _ hr, rfl⟩
      · cases h
        refine ⟨R, .refl I, hv, ?_⟩
        cases a <;> first | rfl | exact absurd rfl (hna _)
    have hagg : ∀ {σ : Sto} {cs : List AV} {a' : AV} {σ' : Sto}, snap lo (d + 1) σ (.agg cs) = some (a', σ') → ∃ cs', snapsW (snap lo d) σ cs = some (cs', σ') ∧ a' = .agg cs' := by
      intro σ cs a' σ' h
      simp only [snap] at h
      cases e1 : snapsW (snap lo d) σ cs with
      | none => simp [e1] at h
      | some q =>
        obtain ⟨cs', σ1⟩ := q
        simp [e1] at h
        obtain ⟨rfl, rfl⟩ := h
        exact ⟨cs', rfl, rfl⟩
    refine ⟨fun {σ a a' σ'} h {R w base v} I hv => ?_, fun {σ a a' σ'} h {R w base B o} I hv => ?_⟩
    · by_cases hc : ∃ cs, a = .agg cs
      · obtain ⟨cs, rfl⟩ := hc
        obtain ⟨cs', e1, rfl⟩ := hagg h
        cases hv with
        | agg hc =>
          obtain ⟨R1, hst, hr⟩ := snapsW_ok ih1 e1 I hc
          exact ⟨R1, hst, .agg hr, by simp [AV.cells, snapsW_length e1]⟩
      · obtain ⟨R1, hst, hr, hl⟩ := key h (fun cs e => hc ⟨cs, e⟩) I hv
        refine ⟨R1, hst, hr, ?_⟩
        rw [hl]
        cases a <;> first | rfl | (rename_i cs; exact absurd ⟨cs, rfl⟩ hc)
    · by_cases hc : ∃ cs, a = .agg cs
      · obtain ⟨cs, rfl⟩ := hc
        obtain ⟨cs', e1, rfl⟩ := hagg h
        obtain ⟨R1, hst, hr⟩ := snapsW_cells ih1 e1 I hv
        exact ⟨R1, hst, hr, by simp [AV.cells, snapsW_length e1]⟩
      · have hac : a.cells = [a] := by cases a <;> first | rfl | (rename_i cs; exact absurd ⟨cs, rfl⟩ hc)
        rw [hac] at hv ⊢
        cases hv with
        | cons he h1 h2 =>
          obtain ⟨R1, hst, hr, hl⟩ := key h (fun cs e => hc ⟨cs, e⟩) I h1
          refine ⟨R1, hst, ?_, by rw [hl]; rfl⟩
          rw [hl]
          exact .cons (hst.le.im _ _ _ he) hr (.nil _ _)
end Go.Abs

namespace Go.Abs
open Go.RowKit (Below)

variable {P : Program} {R : Ren} {σ : Sto} {w : World} {lo base : Nat}

/-- What a call comes to. -/
def Post (R : Ren) (σ : Sto) (w : World) (lo base : Nat) (r : AV) (σ' : Sto) : Ending → World → Prop :=
  fun e w' => ∃ v R', e = .returned v ∧ Step R σ w lo base R' σ' w' ∧ VRel R' r v

def GlobOk (cfg : Cfg) (R : Ren) : Prop := ∀ g cs, cfg.glob g = some cs → CellsAt R cs g 0 ∧ AV.frees cs = true

theorem GlobOk.mono {cfg : Cfg} {R' : Ren} (h : GlobOk cfg R) (l : R.Le R') : GlobOk cfg R' := fun g cs e => ⟨(h g cs e).1.mono l, (h g cs e).2⟩

def CallOk (P : Program) (cfg : Cfg) (call : Caller) : Prop := ∀ f args lo σ r σ', call f args lo σ = some (r, σ') → ∀ R w base vs, Inv R σ w lo base → base ≤ w.heap.size → lo ≤ σ.length → GlobOk cfg R → VRels R args vs →
  Calls P f vs.toArray w (Post R σ w lo base r σ')

/-- The outside contracts. -/
structure CfgOk (P : Program) (cfg : Cfg) : Prop where
  ext : ∀ f e, cfg.ext f = some e → ∀ args r, e args = some r → AV.frees args = true → r.free = true → ∀ R σ w lo base vs, Inv R σ w lo base → base ≤ w.heap.size → VRels R args vs → Calls P f vs.toArray w (Post R σ w lo base r σ)
  clone : ∀ f T, cfg.clone f = some T → ∀ args r σ σ', cloneA P σ T args = some (r, σ') → ∀ R w lo base vs, Inv R σ w lo base → base ≤ w.heap.size → lo ≤ σ.length → VRels R args vs → Calls P f vs.toArray w (Post R σ w lo base r σ')
  named : ∀ (f : Nat) fn, P.funcs[f]? = some fn → fn.body = none → cfg.ext f = none ∧ cfg.clone f = none
  plain : ∀ (f : Nat) fn, P.funcs[f]? = some fn → fn.name ≠ "runtime.NumGoroutine"
  bodies : ∀ (f : Nat), (cfg.ext f).isSome = true ∨ (cfg.clone f).isSome = true → ∃ fn, P.funcs[f]? = some fn ∧ fn.name ≠ "runtime.NumGoroutine" ∧ fn.body.isSome = true

theorem below_mono {w w' : World} {b b' : Nat} (h : Below b w w') (hb : b' ≤ b) : Below b' w w' := h.mono hb

/-- A call whose memory is dropped. -/
theorem Step.dropped {R' : Ren} {σ' : Sto} {w' : World} (I : Inv R σ w lo base) (hb : base ≤ w.heap.size) (h : Step R σ w σ.length w.heap.size R' σ' w') :
    Step R σ w lo base { box := R.box, rows := R.rows, im := R'.im } σ w' := by
  have hheap : ∀ B, B < w.heap.size → w'.heap[B]? = w.heap[B]? := h.below.block
  refine ⟨⟨fun _ _ e => e, fun _ r e => ⟨r, e, Nat.le_refl _, fun _ => rfl⟩, h.le.im⟩, I.quiet rfl rfl h.le.im h.inv.im h.imNew hheap, h.below.mono hb, fun B o v e n => Nat.le_trans hb (h.imNew B o v e n), fun _ _ => rfl, Nat.le_refl _, fun _ _ => rfl, fun _ _ _ => rfl, fun _ _ e => e⟩

/-- Nothing but the memory that stays as it is. -/
def Ren.bare (R : Ren) : Ren := ⟨fun _ => none, fun _ => none, R.im⟩

theorem Inv.bare (I : Inv R σ w lo base) (lo' base' : Nat) : Inv R.bare [] w lo' base' := by
  have hA : ∀ {b B}, ¬ At R.bare b B := fun h => by rcases h with h | ⟨_, h, _⟩ <;> simp [Ren.bare] at h
  refine ⟨I.im, fun _ _ => ⟨rfl, rfl⟩, fun _ _ _ _ => rfl, fun _ _ _ _ _ _ => rfl, ?_, ?_, fun _ _ _ h _ => absurd h hA, fun _ _ _ h => absurd h hA, ?_, ?_⟩
  · intro b cs fz h; simp at h
  · intro b es g sz fz h; simp at h
  · intro b cs _ h; simp at h
  · intro b es g sz _ h; simp at h

theorem GlobOk.bare {cfg : Cfg} (h : GlobOk cfg R) : GlobOk cfg R.bare := fun g cs e => ⟨CellsAt.of_free (R := R) (R' := R.bare) (fun _ _ _ h => h) (h g cs e).1 (h g cs e).2, (h g cs e).2⟩

/-- A reader's memory is dropped. -/
theorem Step.read {R' : Ren} {σ' : Sto} {w' : World} (I : Inv R σ w lo base) (hb : base ≤ w.heap.size) (h : Step R.bare [] w 0 w.heap.size R' σ' w') :
    Step R σ w lo base { box := R.box, rows := R.rows, im := R'.im } σ w' := by
  have hheap : ∀ B, B < w.heap.size → w'.heap[B]? = w.heap[B]? := h.below.block
  refine ⟨⟨fun _ _ e => e, fun _ r e => ⟨r, e, Nat.le_refl _, fun _ => rfl⟩, h.le.im⟩, I.quiet rfl rfl h.le.im h.inv.im h.imNew hheap, h.below.mono hb, fun B o v e n => Nat.le_trans hb (h.imNew B o v e n), fun _ _ => rfl, Nat.le_refl _, fun _ _ => rfl, fun _ _ _ => rfl, fun _ _ e => e⟩

/-- A call that writes nothing that was there, and keeps what it made. -/
theorem Step.widen {R' : Ren} {σ' : Sto} {w' : World} (I : Inv R σ w lo base) (hb : base ≤ w.heap.size) (hlo : lo ≤ σ.length) (h : Step R σ w σ.length w.heap.size R' σ' w') :
    Step R σ w lo base R' σ' w' := by
  have hAtOld : ∀ {b B}, At R' b B → b < σ.length → At R b B := fun {b B} hA hlt => by
    rcases hA with hA | ⟨r', hA, rfl⟩
    · rw [h.boxOld b hlt] at hA; exact .inl hA
    · rw [h.rowsOld b hlt hlt] at hA; exact .inr ⟨r', hA, rfl⟩
  have himOld : ∀ {b B}, At R b B → (∀ o, R.im B o = none) → ∀ o, R'.im B o = none := fun {b B} hA hn o => by
    cases e : R'.im B o with
    | none => rfl
    | some v => have := h.imNew B o v e (hn o); have := I.at_heap hA; omega
  refine ⟨h.le, ⟨h.inv.im, h.inv.dom, h.inv.kindB, h.inv.kindR, h.inv.box, h.inv.rows, h.inv.apart, ?_, ?_, ?_⟩, h.below.mono hb, fun B o v e n => Nat.le_trans hb (h.imNew B o v e n),
    fun b hlt => h.keep b (by omega), h.len, h.boxOld, fun b h1 h2 => h.rowsOld b h2 h2, h.rowsNone⟩
  · intro b B h1 hA
    by_cases hlt : b < σ.length
    · exact I.base b B h1 (hAtOld hA hlt)
    · exact Nat.le_trans hb (h.inv.base b B (by omega) hA)
  · intro b cs h1 hσ B hB o
    by_cases hlt : b < σ.length
    · rw [h.keep b hlt] at hσ
      have hA : At R b B := hAtOld (.inl hB) hlt
      have hB' : R.box b = some B := by rw [← h.boxOld b hlt]; exact hB
      exact himOld hA (I.openB b cs h1 hσ B hB') o
    · exact h.inv.openB b cs (by omega) hσ B hB o
  · intro b es g sz h1 hσ r hr o
    by_cases hlt : b < σ.length
    · rw [h.keep b hlt] at hσ
      have hr' : R.rows b = some r := by rw [← h.rowsOld b hlt hlt]; exact hr
      exact himOld (.inr ⟨r, hr', rfl⟩) (I.openR b es g sz h1 hσ r hr') o
    · exact h.inv.openR b es g sz (by omega) hσ r hr o

/-- Where nothing is written the bounds do not matter. -/
theorem Inv.shut (I : Inv R σ w lo base) : Inv R σ w σ.length w.heap.size :=
  ⟨I.im, I.dom, I.kindB, I.kindR, I.box, I.rows, I.apart, fun b B h hA => absurd (I.at_lt hA) (by omega), fun b cs h hσ => absurd (List.getElem?_eq_some_iff.1 hσ).1 (by omega), fun b es g sz h hσ => absurd (List.getElem?_eq_some_iff.1 hσ).1 (by omega)⟩

theorem shut_ok : ∀ {l : List (Nat × Nat × Nat)} {σ σ' : Sto} {R : Ren} {w : World} {args : List AV} {vs : List Value}, shutA lo σ args l = some σ' → Inv R σ w lo base → VRels R args vs →
    ∃ R' , Step R σ w lo base R' σ' w
  | [], σ, σ', R, w, args, vs, h, I, _ => by simp [shutA] at h; subst h; exact ⟨R, .refl I⟩
  | (i, off, n) :: rest, σ, σ', R, w, args, vs, h, I, hv => by
    simp only [shutA] at h
    split at h
    · rename_i b o hi
      split at h
      · rename_i cs hσ
        split at h
        · rename_i hlb
          cases e1 : snapsW (snap lo 6) σ ((cs.drop (o + off)).take n) with
          | none => simp [e1] at h
          | some q =>
            obtain ⟨cs', σ1⟩ := q
            simp only [e1] at h
            split at h
            · rename_i ds hσ1
              split at h
              · rename_i hc
                obtain ⟨u, hu, hr⟩ := hv.get hi
                cases hr with
                | ptr _ hB =>
                  rename_i B
                  obtain ⟨c, T, hw, hrel, _⟩ := I.box b cs false hσ B hB
                  obtain ⟨R1, hst, hr1⟩ := snapsW_ok (snap_ok 6).1 e1 I ((hrel.drop (o + off)).take n)
                  obtain ⟨c1, T1, hw1, hrel1, _⟩ := hst.inv.box b ds false hσ1 B (hst.le.box _ _ hB)
                  rw [hw] at hw1; cases hw1
                  -- the box's cells are as they were, told anew
                  have hlen : c.toList.length = ds.length := hrel1.length.symm
                  have hl1 : ((c.toList.drop (o + off)).take n).length = n := by rw [← hr1.length]; exact hc.1
                  have hsp := splice_rel (off := o + off) hrel1 hr1
                  have hsame : c.toList.take (o + off) ++ (c.toList.drop (o + off)).take n ++ c.toList.drop (o + off + ((c.toList.drop (o + off)).take n).length) = c.toList := by
                    generalize o + off = k at hl1 ⊢
                    rw [hl1, List.append_assoc, ← List.drop_drop]
                    rw [show ((c.toList.drop k).take n) ++ (c.toList.drop k).drop n = c.toList.drop k from List.take_append_drop _ _]
                    exact List.take_append_drop _ _
                  rw [hsame] at hsp
                  have hst2 := Step.setBox (c' := c) hst.inv hlb hσ1 (hst.le.box _ _ hB) hw hsp
                  have hself : w.setRow B c = w := setRow_self w B c T (0, 0) hw
                  rw [hself] at hst2
                  obtain ⟨R3, hst3⟩ := shut_ok h hst2.inv (hv.mono hst.le)
                  exact ⟨R3, (hst.trans hst2).trans hst3⟩
              · cases h
            · cases h
        · cases h
      · cases h
    · exact shut_ok h I hv
    · cases h

theorem Calls.conseq {f : Nat} {vs : Array Value} {Q Q' : Ending → World → Prop} (h : Calls P f vs w Q) (hq : ∀ e w', Q e w' → Q' e w') : Calls P f vs w Q' := h.mono hq

theorem enter_ok {cfg : Cfg} {call : Caller} (hcfg : CfgOk P cfg) (hcall : CallOk P cfg call) {caller f : Nat} {args : List AV} {r : AV} {σ' : Sto} {vs : List Value} (h : enterA P cfg call caller lo σ f args = some (r, σ'))
    (I : Inv R σ w lo base) (hb : base ≤ w.heap.size) (hlo : lo ≤ σ.length) (hg : GlobOk cfg R) (hv : VRels R args vs) : Calls P f vs.toArray w (Post R σ w lo base r σ') := by
  unfold enterA at h
  split at h
  · rename_i T hT
    exact hcfg.clone f T hT args r σ σ' h R w lo base vs I hb hlo hv
  · split at h
    · rename_i e he
      cases e1 : snapsW (snap lo 6) σ args with
      | none => simp [e1] at h
      | some q =>
        obtain ⟨args', σ1⟩ := q
        simp only [e1] at h
        split at h
        · rename_i hfree
          cases e2 : e args' with
          | none => simp [e2] at h
          | some r' =>
            simp only [e2] at h
            split at h
            · rename_i hrf
              cases h
              obtain ⟨R1, hst, hr⟩ := snapsW_ok (snap_ok 6).1 e1 I hv
              exact (hcfg.ext f e he args' _ e2 hfree hrf R1 _ w lo base vs hst.inv hb hr).mono fun e w' ⟨v, R', h1, h2, h3⟩ => ⟨v, R', h1, hst.trans h2, h3⟩
            · cases h
        · cases h
    · split at h
      · exact hcall f args lo σ r σ' h R w base vs I hb hlo hg hv
      · cases e1 : snapsW (snap lo 6) σ args with
        | none => simp [e1] at h
        | some q =>
          obtain ⟨args', σ1⟩ := q
          simp only [e1] at h
          unfold readW at h
          split at h
          · rename_i hfa
            cases e2 : call f args' 0 [] with
            | none => simp [e2] at h
            | some q2 =>
              obtain ⟨r1, σ2⟩ := q2
              simp only [e2] at h
              cases e3 : snap 0 6 σ2 r1 with
              | none => simp [e3] at h
              | some q3 =>
                obtain ⟨r2, σ3⟩ := q3
                simp only [e3] at h
                split at h
                · rename_i hfree
                  cases h
                  obtain ⟨R1, hst, hr⟩ := snapsW_ok (snap_ok 6).1 e1 I hv
                  have I1 := hst.inv
                  have hr0 : VRels R1.bare args' vs := VRels.of_free (R := R1) (R' := R1.bare) (fun _ _ _ h => h) hr hfa
                  refine (hcall f args' 0 [] r1 σ2 e2 R1.bare w w.heap.size vs (I1.bare _ _) (Nat.le_refl _) (Nat.le_refl _) (hg.mono hst.le).bare hr0).mono ?_
                  rintro e w' ⟨v, R2, h1, h2, h3⟩
                  obtain ⟨R3, hst3, hr3, _⟩ := (snap_ok 6).1 e3 h2.inv h3
                  have hd := Step.read I1 hb (h2.trans hst3)
                  exact ⟨v, _, h1, hst.trans hd, VRel.of_free (R := R3) (R' := { box := R1.box, rows := R1.rows, im := R3.im }) (fun _ _ _ e => e) hr3 hfree⟩
                · cases h
          · cases h
      · cases e1 : snapsW (snap lo 6) σ args with
        | none => simp [e1] at h
        | some q =>
          obtain ⟨args', σ1⟩ := q
          simp only [e1] at h
          obtain ⟨R1, hst, hr⟩ := snapsW_ok (snap_ok 6).1 e1 I hv
          have I1 := hst.inv
          refine (hcall f args' _ _ r σ' h R1 w w.heap.size vs I1.shut (Nat.le_refl _) (Nat.le_refl _) (hg.mono hst.le) hr).mono ?_
          rintro e w' ⟨v, R2, h1, h2, h3⟩
          exact ⟨v, R2, h1, hst.trans (Step.widen I1 hb (Nat.le_trans hlo hst.len) h2), h3⟩
      · rename_i shut _
        cases e1 : snapsW (snap lo 6) σ args with
        | none => simp [e1] at h
        | some q =>
          obtain ⟨args', σ1⟩ := q
          simp only [e1] at h
          cases e2 : call f args' lo σ1 with
          | none => simp [e2] at h
          | some q2 =>
            obtain ⟨r1, σ2⟩ := q2
            simp only [e2] at h
            cases e3 : shutA lo σ2 args' shut with
            | none => simp [e3] at h
            | some σ3 =>
              simp only [e3] at h
              obtain ⟨R1, hst, hr⟩ := snapsW_ok (snap_ok 6).1 e1 I hv
              refine (hcall f args' _ _ r1 σ2 e2 R1 w base vs hst.inv hb (Nat.le_trans hlo hst.len) (hg.mono hst.le) hr).mono ?_
              rintro e w' ⟨v, R2, h1, h2, h3⟩
              obtain ⟨R3, hst3⟩ := shut_ok e3 h2.inv (hr.mono h2.le)
              obtain ⟨R4, hst4, hr4, _⟩ := (snap_ok 6).1 h hst3.inv (h3.mono hst3.le)
              exact ⟨v, R4, h1, ((hst.trans h2).trans hst3).trans hst4, hr4⟩
end Go.Abs

namespace Go.Abs
open Go.RowKit (Below)

variable {P : Program} {R : Ren} {σ : Sto} {w : World} {lo base : Nat}

theorem getD_rel {fr : List AV} {ts : Array Value} (h : VRels R fr ts.toList) (t : Nat) : VRel R (fr.getD t undefA) (ts.getD t undef) := by
  have hl := h.length
  rw [List.getD_eq_getElem?_getD]
  cases e : fr[t]? with
  | none =>
    have : fr.length ≤ t := List.getElem?_eq_none_iff.1 e
    have h2 : ¬ t < ts.size := by simp at hl; omega
    simp [h2, undefA, undef]
    exact .tuple .nil
  | some a =>
    obtain ⟨u, hu, hr⟩ := h.get e
    have : ts[t]? = some u := by simpa using hu
    simp [this]
    exact hr

theorem ev_ok {cfg : Cfg} {fr : List AV} {a : Act} (h : VRels R fr a.tmps.toList) (hg : GlobOk cfg R) {x : Operand} {v : AV} (he : evA cfg fr x = some v) : VRel R v (a.eval x) := by
  cases x with
  | tmp t => simp [evA] at he; subst he; exact getD_rel h t
  | const c => simp [evA] at he; exact absC_rel he
  | global g =>
    simp only [evA, Option.map_eq_some_iff] at he
    obtain ⟨cs, hc, rfl⟩ := he
    have := VRel.ro (R := R) 0 (hg g cs hc).1
    exact this
  | func f => simp [evA] at he; subst he; exact .func _ .nil .nil

/-- What the operands come to. -/
def EvOk (cfg : Cfg) (R : Ren) (fr : List AV) (a : Act) (xs : List Operand) : Prop := ∀ x ∈ xs, ∀ v, evA cfg fr x = some v → VRel R v (a.eval x)

theorem EvOk.of_frame {cfg : Cfg} {fr : List AV} {a : Act} (h : VRels R fr a.tmps.toList) (hg : GlobOk cfg R) (xs : List Operand) : EvOk cfg R fr a xs := fun _ _ _ he => ev_ok h hg he

theorem EvOk.sub {cfg : Cfg} {fr : List AV} {a : Act} {xs ys : List Operand} (h : EvOk cfg R fr a xs) (k : ∀ x ∈ ys, x ∈ xs) : EvOk cfg R fr a ys := fun x hx v hv => h x (k x hx) v hv

theorem evs_ok {cfg : Cfg} {fr : List AV} {a : Act} : ∀ {xs : List Operand} {vs : List AV}, EvOk cfg R fr a xs → evsA cfg fr xs = some vs → VRels R vs (xs.map a.eval)
  | [], vs, _, he => by simp [evsA] at he; subst he; exact .nil
  | x :: xs, vs, h, he => by
    simp only [evsA] at he
    cases e1 : evA cfg fr x with
    | none => simp [e1] at he
    | some v => cases e2 : evsA cfg fr xs with
      | none => simp [e1, e2] at he
      | some us => simp [e1, e2] at he; subst he; exact .cons (h x (by simp) v e1) (evs_ok (h.sub (by simp +contextual)) e2)

theorem opt_ok {cfg : Cfg} {fr : List AV} {a : Act} {x : Option Operand} (h : EvOk cfg R fr a x.toList) {v : Option AV} (he : optA cfg fr x = some v) : ORel R v (x.map a.eval) := by
  cases x with
  | none => simp [optA] at he; subst he; exact .none
  | some x =>
    simp only [optA, Option.map_eq_some_iff] at he
    obtain ⟨u, hu, rfl⟩ := he
    exact .some (h x (by simp) u hu)

theorem parts_rel : ∀ {is : List Nat} {vs : List AV} {us : List Value}, is.length = vs.length → VRels R vs us → PRel R (is.zip vs) (is.zip us)
  | [], [], _, _, .nil => .nil
  | i :: is, v :: vs, _, hl, .cons h t => .cons h (parts_rel (by simpa using hl) t)

theorem parts_ok {cfg : Cfg} {fr : List AV} {a : Act} {ps : List (Nat × Operand)} (h : EvOk cfg R fr a (ps.map (·.2))) {vs : List (Nat × AV)} (he : partsA cfg fr ps = some vs) : PRel R vs (ps.map fun p => (p.1, a.eval p.2)) := by
  simp only [partsA, Option.map_eq_some_iff] at he
  obtain ⟨us, hu, rfl⟩ := he
  have hr := evs_ok h hu
  have hl : (ps.map (·.1)).length = us.length := by have := hr.length; simp at this ⊢; omega
  have := parts_rel hl hr
  have e : (ps.map (·.1)).zip ((ps.map (·.2)).map a.eval) = ps.map fun p => (p.1, a.eval p.2) := by
    clear this hl hr hu h
    induction ps with
    | nil => rfl
    | cons p ps ih => simp only [List.map_cons, List.zip_cons_cons, ih]
  rwa [e] at this

/-- The continuation of an operation. -/
def Goes (P : Program) (R : Ren) (σ : Sto) (w : World) (lo base : Nat) (r : AV) (σ' : Sto) (o : Oper) (a : Act) : Prop :=
  ∀ (next : Act → World → Prop) (Q : Exit → Act → World → Prop), (∀ v w' R', Step R σ w lo base R' σ' w' → VRel R' r v → next (a.put o.dst v) w') → o.wp P a w next Q

theorem goes_of_run {o : Oper} {a : Act} {r : AV} {σ' : Sto} {R' : Ren} {v : Value} {w' : World} (h : (execOp a.eval o).run P w = .ok (.value v) w') (hs : Step R σ w lo base R' σ' w') (hr : VRel R' r v) : Goes P R σ w lo base r σ' o a := by
  intro next Q k
  unfold Oper.wp
  rw [h]
  exact k v w' R' hs hr

theorem run_val {s : Sem Value} {v : Value} {w' : World} (h : s.run P w = .ok v w') : (do pure (Next.value (← s)) : Sem Next).run P w = .ok (.value v) w' := by
  simp only [Sem.run_bind, h, Result.andThen_ok, Sem.run_pure]

theorem run_program (w : World) : (program).run P w = .ok P w := rfl

def BodyOk (P : Program) (call : Caller) : Prop := ∀ f args lo σ x, call f args lo σ = some x → ∃ fn, P.funcs[f]? = some fn ∧ fn.name ≠ "runtime.NumGoroutine" ∧ fn.body.isSome = true

theorem enter_body {cfg : Cfg} {call : Caller} (hcfg : CfgOk P cfg) (hbody : BodyOk P call) {caller f : Nat} {args : List AV} {x : AV × Sto} (h : enterA P cfg call caller lo σ f args = some x) :
    ∃ fn, P.funcs[f]? = some fn ∧ fn.name ≠ "runtime.NumGoroutine" ∧ fn.body.isSome = true := by
  unfold enterA at h
  split at h
  · rename_i T hT; exact hcfg.bodies f (.inr (by simp [hT]))
  · split at h
    · rename_i e he; exact hcfg.bodies f (.inl (by simp [he]))
    · split at h
      · exact hbody _ _ _ _ _ h
      · split at h
        · rename_i args' σ1 _
          unfold readW at h
          split at h
          · cases e2 : call f args' 0 [] with
            | none => simp [e2] at h
            | some q => exact hbody _ _ _ _ _ e2
          · cases h
        · cases h
      · split at h
        · exact hbody _ _ _ _ _ h
        · cases h
      · split at h
        · rename_i args' σ1 _
          cases e2 : call f args' lo σ1 with
          | none => simp [e2] at h
          | some q => exact hbody _ _ _ _ _ e2
        · cases h

theorem op_ok {cfg : Cfg} {call : Caller} (hcfg : CfgOk P cfg) (hcall : CallOk P cfg call) (hbody : BodyOk P call) {caller : Nat} {fr : List AV} {o : Oper} {r : AV} {σ' : Sto} {a : Act} (h : opA P cfg call caller lo fr σ o.op = some (r, σ'))
    (I : Inv R σ w lo base) (hb : base ≤ w.heap.size) (hlo : lo ≤ σ.length) (hg : GlobOk cfg R) (hf : EvOk cfg R fr a o.op.operands.toList) : Goes P R σ w lo base r σ' o a := by
  obtain ⟨dst, op, type, pos, after, guard⟩ := o
  simp only at hf
  cases op
  case move x =>
    simp only [opA, opPick, opAlloc, opBox, opBuild, opBuildSlice, op1, op2, opStore, opMkIface, opMakeFunc, opMakeSlice, opSlice, opExtract, sameA, Option.map_eq_some_iff] at h
    obtain ⟨v, hv, e⟩ := h; cases e
    exact goes_of_run rfl (.refl I) (hf _ (by simp [Op.operands]) _ hv)
  case assign x =>
    simp only [opA, opPick, opAlloc, opBox, opBuild, opBuildSlice, op1, op2, opStore, opMkIface, opMakeFunc, opMakeSlice, opSlice, opExtract, sameA, Option.map_eq_some_iff] at h
    obtain ⟨v, hv, e⟩ := h; cases e
    exact goes_of_run rfl (.refl I) (hf _ (by simp [Op.operands]) _ hv)
  case pick c x y =>
    simp only [opA, opPick, opAlloc, opBox, opBuild, opBuildSlice, op1, op2, opStore, opMkIface, opMakeFunc, opMakeSlice, opSlice, opExtract, sameA] at h
    split at h
    · rename_i t u v hc hx hy
      cases h
      have hcr := hf _ (by simp [Op.operands]) _ hc
      have hcv : a.eval c = .bool t := by generalize a.eval c = y at hcr; cases hcr; rfl
      refine goes_of_run (v := if t then a.eval x else a.eval y) ?_ (.refl I) ?_
      · simp only [execOp, hcv, Sem.run_bind, asBool, Sem.run_pure, Result.andThen_ok]
      · cases t
        · exact hf _ (by simp [Op.operands]) _ hy
        · exact hf _ (by simp [Op.operands]) _ hx
    · cases h
  case alloc t =>
    simp only [opA, opPick, opAlloc, opBox, opBuild, opBuildSlice, op1, op2, opStore, opMkIface, opMakeFunc, opMakeSlice, opSlice, opExtract, sameA] at h
    split at h
    · rename_i z hz
      cases h
      obtain ⟨zv, hzr, hzv⟩ := zeroA_run (R := R) hz
      obtain ⟨_, _, _, _, _, hno⟩ := zero_info hz
      obtain ⟨R', hst, hR⟩ := Step.allocBox I hb hlo t (hzv.cells hno)
      refine goes_of_run (v := .pointer (some ⟨w.heap.size, 0, none⟩)) ?_ hst (.ptr 0 hR)
      simp only [execOp, Instr.alloc, Sem.run_bind, hzr, Result.andThen_ok, newVar, newRow, run_newObj, Sem.run_pure]
      rfl
    · cases h
  case box t x =>
    simp only [opA, opPick, opAlloc, opBox, opBuild, opBuildSlice, op1, op2, opStore, opMkIface, opMakeFunc, opMakeSlice, opSlice, opExtract, sameA] at h
    split at h
    · rename_i v hx
      split at h
      · rename_i hc
        cases h
        obtain ⟨R', hst, hR⟩ := Step.allocBox I hb hlo t ((hf _ (by simp [Op.operands]) _ hx).cells' hc)
        refine goes_of_run (v := .pointer (some ⟨w.heap.size, 0, none⟩)) ?_ hst (.ptr 0 hR)
        simp only [execOp, Instr.box, Sem.run_bind, Result.andThen_ok, newVar, newRow, run_newObj, Sem.run_pure]
        rfl
      · cases h
    · cases h
  case build t ps =>
    simp only [opA, opPick, opAlloc, opBox, opBuild, opBuildSlice, op1, op2, opStore, opMkIface, opMakeFunc, opMakeSlice, opSlice, opExtract, sameA] at h
    split at h
    · rename_i parts hp
      simp only [Option.map_eq_some_iff] at h
      obtain ⟨v, hv, e⟩ := h; cases e
      obtain ⟨u, hu, hr⟩ := build_run (P := P) (w := w) (vs := ps.map fun p => (p.1, a.eval p.2)) hv (by simpa using parts_ok (a := a) (hf.sub (by simp [Op.operands])) hp)
      exact goes_of_run (run_val hu) (.refl I) hr
    · cases h
  case buildSlice t n ps =>
    simp only [opA, opPick, opAlloc, opBox, opBuild, opBuildSlice, op1, op2, opStore, opMkIface, opMakeFunc, opMakeSlice, opSlice, opExtract, sameA] at h
    split at h
    · rename_i parts hp
      split at h
      · simp only [Option.map_eq_some_iff] at h
        obtain ⟨v, hv, e⟩ := h; cases e
        obtain ⟨u, w', R', hu, hst, hr⟩ := buildSlice_run (P := P) (vs := ps.map fun p => (p.1, a.eval p.2)) I hb hv (by simpa using parts_ok (a := a) (hf.sub (by simp [Op.operands])) hp)
        exact goes_of_run (run_val hu) hst hr
      · cases h
    · cases h
  case load t x =>
    simp only [opA, opPick, opAlloc, opBox, opBuild, opBuildSlice, op1, op2, opStore, opMkIface, opMakeFunc, opMakeSlice, opSlice, opExtract, sameA] at h
    split at h
    · rename_i p hp
      simp only [Option.map_eq_some_iff] at h
      obtain ⟨v, hv, e⟩ := h; cases e
      obtain ⟨u, hu, hr⟩ := load_run (P := P) I hv (hf _ (by simp [Op.operands]) _ hp)
      exact goes_of_run (run_val hu) (.refl I) hr
    · cases h
  case store t x y =>
    simp only [opA, opPick, opAlloc, opBox, opBuild, opBuildSlice, op1, op2, opStore, opMkIface, opMakeFunc, opMakeSlice, opSlice, opExtract, sameA] at h
    split at h
    · rename_i p v hp hv
      simp only [Option.map_eq_some_iff] at h
      obtain ⟨σ1, hs, e⟩ := h; cases e
      obtain ⟨w', hu, hst⟩ := store_run (P := P) I hs (hf _ (by simp [Op.operands]) _ hp) (hf _ (by simp [Op.operands]) _ hv)
      intro next Q k
      unfold Oper.wp
      have hrun : (execOp a.eval ⟨dst, .store t x y, type, pos, after, guard⟩).run P w = .ok .skip w' := by
        simp only [execOp, Sem.run_bind, hu, Result.andThen_ok, Sem.run_pure]
      rw [hrun]
      exact k undef w' R hst (.tuple .nil)
    · cases h
  case nilCheck x =>
    simp only [opA, opPick, opAlloc, opBox, opBuild, opBuildSlice, op1, op2, opStore, opMkIface, opMakeFunc, opMakeSlice, opSlice, opExtract, sameA] at h
    split at h
    · rename_i p hp
      simp only [Option.map_eq_some_iff] at h
      obtain ⟨v, hv, e⟩ := h; cases e
      obtain ⟨hu, hr⟩ := nil_run (P := P) (w := w) hv (hf _ (by simp [Op.operands]) _ hp) ⟨dst, .nilCheck x, type, pos, after, guard⟩ a.eval x rfl rfl
      exact goes_of_run hu (.refl I) hr
    · cases h
  case binOp op t x y yT =>
    simp only [opA, opPick, opAlloc, opBox, opBuild, opBuildSlice, op1, op2, opStore, opMkIface, opMakeFunc, opMakeSlice, opSlice, opExtract, sameA] at h
    split at h
    · rename_i u v hx hy
      simp only [Option.map_eq_some_iff] at h
      obtain ⟨z, hz, e⟩ := h; cases e
      obtain ⟨zv, hu, hr⟩ := bin_run (P := P) (w := w) hz (hf _ (by simp [Op.operands]) _ hx) (hf _ (by simp [Op.operands]) _ hy)
      exact goes_of_run (run_val hu) (.refl I) hr
    · cases h
  case unOp op t x =>
    simp only [opA, opPick, opAlloc, opBox, opBuild, opBuildSlice, op1, op2, opStore, opMkIface, opMakeFunc, opMakeSlice, opSlice, opExtract, sameA] at h
    split at h
    · rename_i u hx
      simp only [Option.map_eq_some_iff] at h
      obtain ⟨z, hz, e⟩ := h; cases e
      obtain ⟨zv, hu, hr⟩ := un_run (P := P) (w := w) hz (hf _ (by simp [Op.operands]) _ hx)
      exact goes_of_run (run_val hu) (.refl I) hr
    · cases h
  case convert s d x =>
    simp only [opA, opPick, opAlloc, opBox, opBuild, opBuildSlice, op1, op2, opStore, opMkIface, opMakeFunc, opMakeSlice, opSlice, opExtract, sameA] at h
    split at h
    · rename_i u hx
      simp only [Option.map_eq_some_iff] at h
      obtain ⟨z, hz, e⟩ := h; cases e
      obtain ⟨zv, hu, hr⟩ := conv_run (P := P) (w := w) hz (hf _ (by simp [Op.operands]) _ hx)
      exact goes_of_run (run_val hu) (.refl I) hr
    · cases h
  case makeInterface t x =>
    simp only [opA, opPick, opAlloc, opBox, opBuild, opBuildSlice, op1, op2, opStore, opMkIface, opMakeFunc, opMakeSlice, opSlice, opExtract, sameA] at h
    split at h
    · rename_i u hx
      split at h
      · simp only [Option.map_eq_some_iff] at h
        obtain ⟨z, hz, e⟩ := h; cases e
        obtain ⟨zv, hu, hr⟩ := iface_run (P := P) (w := w) hz (hf _ (by simp [Op.operands]) _ hx)
        exact goes_of_run (run_val hu) (.refl I) hr
      · cases h
    · cases h
  case makeFunc fn first captured =>
    simp only [opA, opPick, opAlloc, opBox, opBuild, opBuildSlice, op1, op2, opStore, opMkIface, opMakeFunc, opMakeSlice, opSlice, opExtract, sameA] at h
    cases fn
    case func f =>
      simp only at h
      split at h
      · rename_i u v hx hy
        cases h
        have h1 := evs_ok (a := a) (hf.sub (by simp +contextual [Op.operands, Call.operands])) hx
        have h2 := evs_ok (a := a) (hf.sub (by simp +contextual [Op.operands, Call.operands])) hy
        refine goes_of_run (v := .func (.func f) (first.map a.eval) (captured.map a.eval)) rfl (.refl I) ?_
        have := VRel.func (R := R) (.func f) h1 h2
        rw [show first.map a.eval = (first.toList.map a.eval).toArray from Array.ext' (by rw [Array.toList_map]), show captured.map a.eval = (captured.toList.map a.eval).toArray from Array.ext' (by rw [Array.toList_map])]
        exact this
      · cases h
    all_goals (simp at h)
  case makeSlice t l c =>
    simp only [opA, opPick, opAlloc, opBox, opBuild, opBuildSlice, op1, op2, opStore, opMkIface, opMakeFunc, opMakeSlice, opSlice, opExtract, sameA] at h
    split at h
    · rename_i u v hx hy
      obtain ⟨z, w', R', hu, hst, hr⟩ := makeSlice_run (P := P) I hb hlo h (hf _ (by simp [Op.operands]) _ hx) (hf _ (by simp [Op.operands]) _ hy)
      exact goes_of_run (run_val hu) hst hr
    · cases h
  case slice t x l h' m =>
    simp only [opA, opPick, opAlloc, opBox, opBuild, opBuildSlice, op1, op2, opStore, opMkIface, opMakeFunc, opMakeSlice, opSlice, opExtract, sameA] at h
    split at h
    · rename_i u vl vh vm hx hl hh hm
      simp only [Option.map_eq_some_iff] at h
      obtain ⟨z, hz, e⟩ := h; cases e
      obtain ⟨zv, hu, hr⟩ := slice_run (P := P) I hz (hf _ (by simp [Op.operands]) _ hx) (opt_ok (hf.sub (by simp +contextual [Op.operands])) hl) (opt_ok (hf.sub (by simp +contextual [Op.operands])) hh) (opt_ok (hf.sub (by simp +contextual [Op.operands])) hm)
      exact goes_of_run (run_val hu) (.refl I) hr
    · cases h
  case fieldAddr s x f =>
    simp only [opA, opPick, opAlloc, opBox, opBuild, opBuildSlice, op1, op2, opStore, opMkIface, opMakeFunc, opMakeSlice, opSlice, opExtract, sameA] at h
    split at h
    · rename_i u hx
      simp only [Option.map_eq_some_iff] at h
      obtain ⟨z, hz, e⟩ := h; cases e
      obtain ⟨zv, hu, hr⟩ := fieldAddr_run (P := P) (w := w) hz (hf _ (by simp [Op.operands]) _ hx)
      exact goes_of_run (run_val hu) (.refl I) hr
    · cases h
  case field t x f =>
    simp only [opA, opPick, opAlloc, opBox, opBuild, opBuildSlice, op1, op2, opStore, opMkIface, opMakeFunc, opMakeSlice, opSlice, opExtract, sameA] at h
    split at h
    · rename_i u hx
      simp only [Option.map_eq_some_iff] at h
      obtain ⟨z, hz, e⟩ := h; cases e
      obtain ⟨zv, hu, hr⟩ := field_run (P := P) (w := w) hz (hf _ (by simp [Op.operands]) _ hx)
      exact goes_of_run (run_val hu) (.refl I) hr
    · cases h
  case indexAddr t x i =>
    simp only [opA, opPick, opAlloc, opBox, opBuild, opBuildSlice, op1, op2, opStore, opMkIface, opMakeFunc, opMakeSlice, opSlice, opExtract, sameA] at h
    split at h
    · rename_i u v hx hy
      simp only [Option.map_eq_some_iff] at h
      obtain ⟨z, hz, e⟩ := h; cases e
      obtain ⟨zv, hu, hr⟩ := indexAddr_run (P := P) I hz (hf _ (by simp [Op.operands]) _ hx) (hf _ (by simp [Op.operands]) _ hy)
      exact goes_of_run (run_val hu) (.refl I) hr
    · cases h
  case index t x i =>
    simp only [opA, opPick, opAlloc, opBox, opBuild, opBuildSlice, op1, op2, opStore, opMkIface, opMakeFunc, opMakeSlice, opSlice, opExtract, sameA] at h
    split at h
    · rename_i u v hx hy
      simp only [Option.map_eq_some_iff] at h
      obtain ⟨z, hz, e⟩ := h; cases e
      obtain ⟨zv, hu, hr⟩ := index_run (P := P) (w := w) hz (hf _ (by simp [Op.operands]) _ hx) (hf _ (by simp [Op.operands]) _ hy)
      exact goes_of_run (run_val hu) (.refl I) hr
    · cases h
  case typeAssert x xT t ok =>
    simp only [opA, opPick, opAlloc, opBox, opBuild, opBuildSlice, op1, op2, opStore, opMkIface, opMakeFunc, opMakeSlice, opSlice, opExtract, sameA] at h
    split at h
    · rename_i u hx
      simp only [Option.map_eq_some_iff] at h
      obtain ⟨z, hz, e⟩ := h; cases e
      obtain ⟨zv, hu, hr⟩ := assert_run (P := P) (w := w) (s := xT) hz (hf _ (by simp [Op.operands]) _ hx)
      exact goes_of_run (run_val hu) (.refl I) hr
    · cases h
  case extract x i =>
    simp only [opA, opPick, opAlloc, opBox, opBuild, opBuildSlice, op1, op2, opStore, opMkIface, opMakeFunc, opMakeSlice, opSlice, opExtract, sameA] at h
    split at h
    · rename_i vs hx
      simp only [Option.map_eq_some_iff] at h
      obtain ⟨z, hz, e⟩ := h; cases e
      have hr := hf _ (by simp [Op.operands]) _ hx
      generalize he : a.eval x = u at hr
      cases hr with
      | tuple hvs =>
        obtain ⟨zv, hu, hr⟩ := hvs.get hz
        refine goes_of_run (v := zv) ?_ (.refl I) hr
        simp only [execOp, he]
        refine run_val ?_
        simp only [Instr.extract]
        simp [hu]
    · cases h
  case call c =>
    simp only [opA, opPick, opAlloc, opBox, opBuild, opBuildSlice, op1, op2, opStore, opMkIface, opMakeFunc, opMakeSlice, opSlice, opExtract, sameA, callA] at h
    split at h
    · cases h
    · rename_i args hargs
      have hv := evs_ok (a := a) (hf.sub (by simp +contextual [Op.operands, Call.operands])) hargs
      split at h
      · rename_i b hcal
        have hrun : ∀ (u : Value) (w' : World), (builtin b c.argTypes type (c.args.map fun | .const _ => true | _ => false) (c.args.map a.eval)).run P w = .ok (.value u) w' →
            (execOp a.eval ⟨dst, .call c, type, pos, after, guard⟩).run P w = .ok (.value u) w' := by
          intro u w' hu
          simp only [execOp, resolve, hcal, Sem.run_bind, Sem.run_pure, Result.andThen_ok, invoke]
          exact hu
        have hcargs : c.args.map a.eval = (c.args.toList.map a.eval).toArray := Array.ext' (by rw [Array.toList_map])
        split at h
        · rename_i s x
          generalize hl : c.args.toList.map a.eval = ls at hv
          cases hv with
          | cons h1 h2 => cases h2 with
            | cons h2 h3 => cases h3 with
              | nil =>
                obtain ⟨u, w', R', hu, hst, hr⟩ := append_run (P := P) (type := type) I hb hlo h h1 h2
                refine goes_of_run (hrun u w' ?_) hst hr
                rw [hcargs, hl]
                exact run_val hu
        · rename_i d x
          generalize hl : c.args.toList.map a.eval = ls at hv
          cases hv with
          | cons h1 h2 => cases h2 with
            | cons h2 h3 => cases h3 with
              | nil =>
                obtain ⟨u, w', hu, hst, hr⟩ := copy_run (P := P) (type := type) I h h1 h2
                refine goes_of_run (hrun u w' ?_) hst hr
                rw [hcargs, hl]
                exact run_val hu
        · rename_i d
          generalize hl : c.args.toList.map a.eval = ls at hv
          cases hv with
          | cons h1 h2 => cases h2 with
            | nil =>
                obtain ⟨u, w', hu, hst, hr⟩ := clear_run (P := P) (type := type) I h h1
                refine goes_of_run (hrun u w' ?_) hst hr
                rw [hcargs, hl]
                exact run_val hu
        · rename_i x
          simp only [Option.map_eq_some_iff] at h
          obtain ⟨z, hz, e⟩ := h; cases e
          generalize hl : c.args.toList.map a.eval = ls at hv
          cases hv with
          | cons h1 h2 => cases h2 with
            | nil =>
                obtain ⟨u, hu, hr⟩ := len_run (P := P) (w := w) (type := type) hz h1
                refine goes_of_run (hrun u w ?_) (.refl I) hr
                rw [hcargs, hl]
                exact run_val hu
        · simp only [Option.map_eq_some_iff] at h
          obtain ⟨z, hz, e⟩ := h; cases e
          obtain ⟨u, hu, hr⟩ := mm_run (P := P) (w := w) (mx := true) (argTypes := c.argTypes) (type := type) hz hv
          refine goes_of_run (hrun u w ?_) (.refl I) hr
          rw [hcargs]
          exact run_val hu
        · simp only [Option.map_eq_some_iff] at h
          obtain ⟨z, hz, e⟩ := h; cases e
          obtain ⟨u, hu, hr⟩ := mm_run (P := P) (w := w) (mx := false) (argTypes := c.argTypes) (type := type) hz hv
          refine goes_of_run (hrun u w ?_) (.refl I) hr
          rw [hcargs]
          exact run_val hu
        · cases h
      · rename_i x hcal
        split at h
        · rename_i g first captured hx
          have hfr := hf _ (by simp [Op.operands, Call.operands, hcal]) _ hx
          generalize hex : a.eval x = xv at hfr
          cases hfr with
          | func _ h1 h2 =>
            rename_i us vs
            have hcalls := enter_ok hcfg hcall h I hb hlo hg ((h1.append hv).append h2)
            intro next Q k
            unfold Oper.wp
            have hfn : ∃ fn, P.funcs[g]? = some fn ∧ (fn.name == "runtime.NumGoroutine") = false ∧ fn.body.isNone = false := by
              obtain ⟨fn, h1, h2, h3⟩ := enter_body hcfg hbody h
              refine ⟨fn, h1, by simpa using h2, ?_⟩
              cases hb : fn.body with
              | none => rw [hb] at h3; cases h3
              | some _ => rfl
            obtain ⟨fn, hfn1, hfn2, hfn3⟩ := hfn
            have hrun : (execOp a.eval ⟨dst, .call c, type, pos, after, guard⟩).run P w = .ok (.enter g (us.toArray ++ c.args.map a.eval ++ vs.toArray)) w := by
              simp only [execOp, resolve, hcal, hex, Deferred.ofValue, Sem.run_bind, Sem.run_pure, Result.andThen_ok, invoke, callFunc, run_program, hfn1, hfn2, hfn3, Bool.false_eq_true, if_false]
            rw [hrun]
            simp only [Oper.upon]
            have e : us.toArray ++ c.args.map a.eval ++ vs.toArray = (us ++ c.args.toList.map a.eval ++ vs).toArray := by apply Array.ext'; simp
            rw [e]
            refine hcalls.mono ?_
            rintro e w' ⟨v, R', rfl, hst, hr⟩
            exact k v w' R' hst hr
        · cases h
      · cases h
  all_goals (simp only [opA, opPick, opAlloc, opBox, opBuild, opBuildSlice, op1, op2, opStore, opMkIface, opMakeFunc, opMakeSlice, opSlice, opExtract, sameA] at h; cases h)

theorem put_rel {fr : List AV} {a : Act} {dst : Option Tmp} {r : AV} {v : Value} (h : VRels R fr a.tmps.toList) (hr : VRel R r v) : VRels R (putA fr dst r) (a.put dst v).tmps.toList := by
  cases dst with
  | none => exact h
  | some d => simp only [putA, Act.put, Array.toList_setIfInBounds]; exact h.set d hr

theorem put_defers (a : Act) (dst : Option Tmp) (v : Value) : (a.put dst v).defers = a.defers := by cases dst <;> rfl

theorem wanted_rel {fr : List AV} {a : Act} {ops : Array Oper} {o : Oper} (hl : fr.length = a.tmps.size) (h : ∀ j want d, o.guard = some (j, want) → (ops[j]?).bind (·.dst) = some d → ∀ x, fr[d]? = some x → ∃ v, a.tmps[d]? = some v ∧ ∃ R, VRel R x v) {b : Bool} (hw : wantedA ops fr o = some b) :
    Region.wanted o (yielded ops a.tmps) = b := by
  unfold wantedA at hw
  unfold Region.wanted
  cases hg : o.guard with
  | none => simp only [hg] at hw; cases hw; rfl
  | some p =>
    obtain ⟨j, want⟩ := p
    simp only [hg] at hw ⊢
    unfold yielded
    cases hd : (ops[j]?).bind (·.dst) with
    | none => simp [hd] at hw; subst hw; simp
    | some d =>
      cases hf : fr[d]? with
      | none =>
        have h1 : fr.length ≤ d := List.getElem?_eq_none_iff.1 hf
        have h2 : a.tmps[d]? = none := Array.getElem?_eq_none (by omega)
        simp [hd, hf] at hw
        subst hw
        simp [h2]
      | some x =>
        obtain ⟨v, hv, R, hr⟩ := h j want d hg hd x hf
        simp only [hd, Option.bind_some, hf] at hw
        simp only [Option.bind_some, hv]
        cases hr <;> simp at hw <;> (subst hw; simp)

theorem getElem_rel {fr : List AV} {ts : Array Value} (h : VRels R fr ts.toList) {d : Nat} {x : AV} (hx : fr[d]? = some x) : ∃ v, ts[d]? = some v ∧ VRel R x v := by
  obtain ⟨u, hu, hr⟩ := h.get hx
  exact ⟨u, by simpa using hu, hr⟩

theorem ops_ok {cfg : Cfg} {call : Caller} (hcfg : CfgOk P cfg) (hcall : CallOk P cfg call) (hbody : BodyOk P call) {caller : Nat} {ops : Array Oper} (hb : True) :
    ∀ {l : List Oper} {fr fr' : List AV} {σ σ' : Sto} {R : Ren} {w : World} {a : Act} {Q : Exit → Act → World → Prop}, opsA P cfg call caller lo ops l fr σ = some (fr', σ') →
      Inv R σ w lo base → base ≤ w.heap.size → lo ≤ σ.length → GlobOk cfg R → VRels R fr a.tmps.toList → a.defers = [] →
      (∀ a' w' R', Step R σ w lo base R' σ' w' → VRels R' fr' a'.tmps.toList → a'.defers = [] → a'.tmps.size = a.tmps.size → Q .normal a' w') → wpList P ops Q l a w
  | [], fr, fr', σ, σ', R, w, a, Q, h, I, hb, hlo, hg, hf, hd, k => by
    simp [opsA] at h; obtain ⟨rfl, rfl⟩ := h
    exact k a w R (.refl I) hf hd rfl
  | o :: rest, fr, fr', σ, σ', R, w, a, Q, h, I, hb, hlo, hg, hf, hd, k => by
    simp only [opsA] at h
    have hsz : fr.length = a.tmps.size := by have := hf.length; simpa using this
    have hwr : ∀ {b}, wantedA ops fr o = some b → Region.wanted o (yielded ops a.tmps) = b := fun hw => wanted_rel hsz (fun j want d _ _ x hx => by
      obtain ⟨v, hv, hr⟩ := getElem_rel hf hx
      exact ⟨v, hv, R, hr⟩) hw
    unfold wpList
    split at h
    · rename_i hw
      rw [if_pos (hwr hw)]
      cases e : opA P cfg call caller lo fr σ o.op with
      | none => simp [e] at h
      | some q =>
        obtain ⟨r, σ1⟩ := q
        simp only [e] at h
        refine .inl (op_ok hcfg hcall hbody e I hb hlo hg (EvOk.of_frame hf hg _) _ _ ?_)
        intro v w1 R1 hst hr
        refine ops_ok hcfg hcall hbody trivial h hst.inv (Nat.le_trans hb hst.below.size) (Nat.le_trans hlo hst.len) (hg.mono hst.le) (put_rel (hf.mono hst.le) hr) (by rw [put_defers]; exact hd) ?_
        intro a' w' R' hst' hf' hd' hs'
        exact k a' w' R' (hst.trans hst') hf' hd' (by rw [hs']; cases o.dst <;> simp [Act.put])
    · rename_i hw
      rw [if_neg (by rw [hwr hw]; simp)]
      refine ops_ok hcfg hcall hbody trivial h I hb hlo hg (put_rel hf (.tuple .nil)) (by rw [put_defers]; exact hd) ?_
      intro a' w' R' hst' hf' hd' hs'
      exact k a' w' R' hst' hf' hd' (by rw [hs']; cases o.dst <;> simp [Act.put])
    · cases h
end Go.Abs

namespace Go.Abs
open Go.RowKit (Below)

variable {P : Program}

theorem load_same {cfg : Cfg} {fr : List AV} {σ σ' : Sto} {t : TypeId} {a : Operand} {p r : AV} (hp : evA cfg fr a = some p) (h : loadA P σ t p = some r) (hs : ∀ b, blkP (evA cfg fr a) = some b → σ'[b]? = σ[b]?) : loadA P σ' t p = some r := by
  rw [hp] at hs
  unfold loadA at h ⊢
  have : placeA σ' p = placeA σ p := by
    cases p <;> simp only [placeA, blkP] at hs ⊢
    · rw [hs _ rfl]
    · rw [hs _ rfl]
  rw [this]; exact h

theorem indexAddr_same {cfg : Cfg} {fr : List AV} {σ σ' : Sto} {t : TypeId} {a : Operand} {x i r : AV} (hx : evA cfg fr a = some x) (h : indexAddrA P σ t x i = some r) (hs : ∀ b, blkS (evA cfg fr a) = some b → σ'[b]? = σ[b]?) : indexAddrA P σ' t x i = some r := by
  rw [hx] at hs
  rw [← h]
  cases x
  case sl b g off len => simp only [blkS] at hs; simp only [indexAddrA, hs _ rfl]
  all_goals rfl

theorem slice_same {cfg : Cfg} {fr : List AV} {σ σ' : Sto} {t : TypeId} {a : Operand} {x r : AV} {l h' m : Option AV} (hx : evA cfg fr a = some x) (h : sliceA P σ t x l h' m = some r) (hs : ∀ b, blkS (evA cfg fr a) = some b → σ'[b]? = σ[b]?) : sliceA P σ' t x l h' m = some r := by
  rw [hx] at hs
  rw [← h]
  cases x
  case sl b g off len =>
    have e : σ'[b]? = σ[b]? := hs b rfl
    cases hd : P.underlying t with
    | none => simp only [sliceA, hd]
    | some d => cases d <;> simp only [sliceA, hd, e]
  all_goals (
    cases hd : P.underlying t with
    | none => simp only [sliceA, hd]
    | some d => cases d <;> simp only [sliceA, hd])

/-- What looks at one place at most answers the same wherever that place is the same. -/
theorem look_same {cfg : Cfg} {call : Caller} {caller lo : Nat} {fr : List AV} {σ σ1 σ' : Sto} {op : Op} {r : AV} (h0 : classA cfg caller op = 0) (h : opA P cfg call caller lo fr σ op = some (r, σ1))
    (hs : ∀ b, lookA cfg fr op = some b → σ'[b]? = σ[b]?) : σ1 = σ ∧ ∀ lo', opA P cfg call caller lo' fr σ' op = some (r, σ') := by
  cases op
  case load t a =>
    simp only [opA, opPick, opAlloc, opBox, opBuild, opBuildSlice, op1, op2, opStore, opMkIface, opMakeFunc, opMakeSlice, opSlice, opExtract, sameA] at h ⊢
    cases hp : evA cfg fr a with
    | none => simp [hp] at h
    | some p =>
      simp only [hp, Option.map_eq_some_iff] at h
      obtain ⟨v, hv, e⟩ := h; cases e
      exact ⟨rfl, fun _ => by simp only [load_same hp hv hs, Option.map_some]⟩
  case indexAddr t x i =>
    simp only [opA, opPick, opAlloc, opBox, opBuild, opBuildSlice, op1, op2, opStore, opMkIface, opMakeFunc, opMakeSlice, opSlice, opExtract, sameA] at h ⊢
    cases hx : evA cfg fr x with
    | none => simp [hx] at h
    | some p => cases hi : evA cfg fr i with
      | none => simp [hx, hi] at h
      | some ix =>
        simp only [hx, hi, Option.map_eq_some_iff] at h
        obtain ⟨v, hv, e⟩ := h; cases e
        exact ⟨rfl, fun _ => by simp only [indexAddr_same hx hv hs, Option.map_some]⟩
  case slice t x l hh m =>
    simp only [opA, opPick, opAlloc, opBox, opBuild, opBuildSlice, op1, op2, opStore, opMkIface, opMakeFunc, opMakeSlice, opSlice, opExtract, sameA] at h ⊢
    split at h
    · rename_i v l' h' m' hx hl hh hm
      simp only [Option.map_eq_some_iff] at h
      obtain ⟨v, hv, e⟩ := h; cases e
      exact ⟨rfl, fun _ => by simp only [hx, hl, hh, hm, slice_same hx hv hs, Option.map_some]⟩
    · cases h
  case call c =>
    simp only [classA] at h0
    simp only [opA, opPick, opAlloc, opBox, opBuild, opBuildSlice, op1, op2, opStore, opMkIface, opMakeFunc, opMakeSlice, opSlice, opExtract, sameA, callA] at h ⊢
    cases ha : evsA cfg fr c.args.toList with
    | none => simp [ha] at h
    | some args =>
      simp only [ha] at h ⊢
      cases hb : c.callee with
      | builtin b =>
        simp only [hb] at h0 h ⊢
        cases b <;> simp at h0
        all_goals (
          split at h <;> first | cases h | skip)
        all_goals simp_all
        all_goals (
          obtain ⟨v, hv, e1, e2⟩ := h
          exact ⟨e2.symm, e1 ▸ hv⟩)
      | value x =>
        rw [hb] at h0
        cases x with
        | func f =>
          simp only at h0
          split at h0
          · cases h0
          · split at h0 <;> cases h0
        | _ => cases h0
      | invoke r m => simp [hb] at h
  case makeFunc fn a b =>
    cases fn with
    | func f =>
      simp only [opA, opPick, opAlloc, opBox, opBuild, opBuildSlice, op1, op2, opStore, opMkIface, opMakeFunc, opMakeSlice, opSlice, opExtract, sameA] at h ⊢
      split at h
      · cases h; exact ⟨rfl, fun _ => rfl⟩
      · cases h
    | _ => cases h
  all_goals first
    | (simp only [classA] at h0; cases h0; done)
    | (simp only [opA, opPick, opAlloc, opBox, opBuild, opBuildSlice, op1, op2, opStore, opMkIface, opMakeFunc, opMakeSlice, opSlice, opExtract, sameA] at h ⊢; split at h <;> first | (cases h; done) | skip)
    | (simp only [opA, opPick, opAlloc, opBox, opBuild, opBuildSlice, op1, op2, opStore, opMkIface, opMakeFunc, opMakeSlice, opSlice, opExtract, sameA] at h ⊢)
  all_goals first
    | (simp only [Option.map_eq_some_iff, Prod.mk.injEq] at h ⊢; obtain ⟨v, hv, e1, e2⟩ := h; exact ⟨e2.symm, fun _ => ⟨v, hv, e1, trivial⟩⟩)
    | (cases h; exact ⟨rfl, fun _ => rfl⟩)
    | (split at h <;> first
        | (cases h; done)
        | (cases h; exact ⟨rfl, fun _ => rfl⟩)
        | (rename_i hc; simp only [hc, if_true, Option.map_eq_some_iff, Prod.mk.injEq] at h ⊢; obtain ⟨v, hv, e1, e2⟩ := h; exact ⟨e2.symm, fun _ => ⟨v, hv, e1, trivial⟩⟩)
        | skip)
end Go.Abs

/- What stands below the bound is kept. -/
namespace Go.Abs

def Keeps (lo : Nat) (σ σ' : Sto) : Prop := σ.length ≤ σ'.length ∧ ∀ b, b < lo → σ'[b]? = σ[b]?

theorem Keeps.refl (lo : Nat) (σ : Sto) : Keeps lo σ σ := ⟨Nat.le_refl _, fun _ _ => rfl⟩
theorem Keeps.trans {lo : Nat} {a b c : Sto} (h : Keeps lo a b) (k : Keeps lo b c) : Keeps lo a c := ⟨Nat.le_trans h.1 k.1, fun i hi => (k.2 i hi).trans (h.2 i hi)⟩
theorem Keeps.mono {lo lo' : Nat} {a b : Sto} (h : Keeps lo a b) (l : lo' ≤ lo) : Keeps lo' a b := ⟨h.1, fun i hi => h.2 i (by omega)⟩
theorem Keeps.app {lo : Nat} {σ : Sto} (h : lo ≤ σ.length) (l : Sto) : Keeps lo σ (σ ++ l) := ⟨by simp, fun b hb => List.getElem?_append_left (by omega)⟩
theorem Keeps.set {lo : Nat} {σ : Sto} {b : Nat} (h : lo ≤ b) (x : Blk) : Keeps lo σ (σ.set b x) := ⟨by simp, fun c hc => List.getElem?_set_ne (by omega)⟩
theorem set_same {σ : Sto} {b : Nat} {x : Blk} (h : σ[b]? = some x) : σ.set b x = σ := by
  apply List.ext_getElem?; intro j
  by_cases e : j = b
  · subst e; rw [List.getElem?_set_self (List.getElem?_eq_some_iff.1 h).1, h]
  · rw [List.getElem?_set_ne (by omega)]

theorem snapsW_keeps {lo : Nat} {f : Sto → AV → Option (AV × Sto)} (hf : ∀ σ v v' σ', f σ v = some (v', σ') → Keeps lo σ σ') : ∀ {vs vs' : List AV} {σ σ' : Sto}, snapsW f σ vs = some (vs', σ') → Keeps lo σ σ'
  | [], _, σ, σ', h => by simp [snapsW] at h; obtain ⟨_, rfl⟩ := h; exact .refl _ _
  | v :: vs, vs', σ, σ', h => by
    simp only [snapsW] at h
    cases e1 : f σ v with
    | none => simp [e1] at h
    | some p =>
      obtain ⟨v1, σ1⟩ := p
      simp only [e1] at h
      cases e2 : snapsW f σ1 vs with
      | none => simp [e2] at h
      | some q =>
        obtain ⟨vs1, σ2⟩ := q
        simp only [e2] at h
        cases h
        exact (hf _ _ _ _ e1).trans (snapsW_keeps hf e2)

theorem keeps_freeze {lo : Nat} {σ : Sto} {b : Nat} {x y : Blk} (hx : σ[b]? = some x) (h : y = x ∨ lo ≤ b) : Keeps lo σ (σ.set b y) := by
  rcases h with rfl | h
  · rw [set_same hx]; exact .refl _ _
  · exact .set h _

theorem snap_keeps {lo : Nat} : ∀ (d : Nat) (σ : Sto) (v v' : AV) (σ' : Sto), snap lo d σ v = some (v', σ') → Keeps lo σ σ'
  | 0, _, _, _, _, h => by simp [snap] at h
  | d + 1, σ, v, v', σ', h => by
    have hw : ∀ {vs vs' : List AV} {σ σ' : Sto}, snapsW (snap lo d) σ vs = some (vs', σ') → Keeps lo σ σ' := fun h => snapsW_keeps (snap_keeps d) h
    cases v <;> simp only [snap] at h
    case sl b g off len =>
      split at h
      · rename_i es g' sz fz hσ
        split at h
        · rename_i hc
          cases e : snapsW (snap lo d) (σ.set b (.rows es g' sz true)) ((es.drop off).take len) with
          | none => simp [e] at h
          | some q =>
            simp only [e] at h; cases h
            exact (keeps_freeze hσ (hc.2.2.imp (fun e => by rw [e]) id)).trans (hw e)
        · cases h
      · cases h
    case bsl b off len =>
      split at h
      · rename_i cs fz hσ
        split at h
        · rename_i hc
          cases e : snapsW (snap lo d) (σ.set b (.box cs true)) ((cs.drop off).take len) with
          | none => simp [e] at h
          | some q =>
            simp only [e] at h; cases h
            exact (keeps_freeze hσ (hc.2.1.imp (fun e => by rw [e]) id)).trans (hw e)
        · cases h
      · cases h
    case agg cs =>
      cases e : snapsW (snap lo d) σ cs with
      | none => simp [e] at h
      | some q => simp only [e] at h; cases h; exact hw e
    case tuple cs =>
      cases e : snapsW (snap lo d) σ cs with
      | none => simp [e] at h
      | some q => simp only [e] at h; cases h; exact hw e
    case iface t x =>
      cases e : snap lo d σ x with
      | none => simp [e] at h
      | some q => simp only [e] at h; cases h; exact snap_keeps d _ _ _ _ e
    all_goals (cases h; exact .refl _ _)

variable {P : Program}

theorem storeA_keeps {lo : Nat} {σ σ' : Sto} {t : TypeId} {p x : AV} (h : storeA P lo σ t p x = some σ') : Keeps lo σ σ' ∧ ∀ c, blkP (some p) ≠ some c → σ'[c]? = σ[c]? := by
  unfold storeA at h
  repeat' split at h
  all_goals first
    | (cases h; done)
    | (cases h; rename_i hc _ _ ; exact ⟨.set (by omega) _, fun c hn => List.getElem?_set_ne (fun e => hn (by simp [blkP, e]))⟩)
    | (cases h; rename_i hc ; exact ⟨.set (by omega) _, fun c hn => List.getElem?_set_ne (fun e => hn (by simp [blkP, e]))⟩)
    | (cases h; exact ⟨.set (by omega) _, fun c hn => List.getElem?_set_ne (fun e => hn (by simp [blkP, e]))⟩)

theorem makeSliceA_keeps {lo : Nat} {σ σ' : Sto} {t : TypeId} {l c r : AV} (hlo : lo ≤ σ.length) (h : makeSliceA P σ t l c = some (r, σ')) : Keeps lo σ σ' := by
  unfold makeSliceA at h
  repeat' split at h
  all_goals first
    | (cases h; done)
    | (cases h; exact .app hlo _)
    | (cases h; exact .refl _ _)

theorem appendA_keeps {lo : Nat} {σ σ' : Sto} {ts : Array TypeId} {s x r : AV} (hlo : lo ≤ σ.length) (h : appendA P lo σ ts s x = some (r, σ')) : Keeps lo σ σ' := by
  unfold appendA at h
  repeat' split at h
  all_goals first
    | (cases h; done)
    | (cases h; exact .app hlo _)
    | (cases h; exact .refl _ _)
    | (cases h; exact .set (by omega) _)

theorem copyA_keeps {lo : Nat} {σ σ' : Sto} {ts : Array TypeId} {s x r : AV} (h : copyA P lo σ ts s x = some (r, σ')) : Keeps lo σ σ' := by
  unfold copyA at h
  repeat' split at h
  all_goals first
    | (cases h; done)
    | (cases h; exact .set (by omega) _)

theorem clearA_keeps {lo : Nat} {σ σ' : Sto} {ts : Array TypeId} {s r : AV} (h : clearA P lo σ ts s = some (r, σ')) : Keeps lo σ σ' := by
  unfold clearA at h
  repeat' split at h
  all_goals first
    | (cases h; done)
    | (cases h; exact .set (by omega) _)

theorem cloneA_keeps {lo : Nat} {σ σ' : Sto} {T : TypeId} {as : List AV} {r : AV} (hlo : lo ≤ σ.length) (h : cloneA P σ T as = some (r, σ')) : Keeps lo σ σ' := by
  unfold cloneA at h
  repeat' split at h
  all_goals first
    | (cases h; done)
    | (cases h; exact .app hlo _)
    | (cases h; exact .refl _ _)

theorem shutA_keeps {lo : Nat} {args : List AV} : ∀ {l : List (Nat × Nat × Nat)} {σ σ' : Sto}, shutA lo σ args l = some σ' → Keeps lo σ σ'
  | [], σ, σ', h => by simp [shutA] at h; subst h; exact .refl _ _
  | (i, off, n) :: rest, σ, σ', h => by
    simp only [shutA] at h
    split at h
    · split at h
      · split at h
        · rename_i hb
          split at h
          · rename_i cs' σ1 hs
            split at h
            · split at h
              · exact (snapsW_keeps (snap_keeps 6) hs).trans ((Keeps.set hb _).trans (shutA_keeps h))
              · cases h
            · cases h
          · cases h
        · cases h
      · cases h
    · exact shutA_keeps h
    · cases h

def CallKeeps (call : Caller) : Prop := ∀ f args lo σ r σ', lo ≤ σ.length → call f args lo σ = some (r, σ') → Keeps lo σ σ'

theorem enterA_keeps {cfg : Cfg} {call : Caller} (hc : CallKeeps call) {caller lo f : Nat} {σ σ' : Sto} {args : List AV} {r : AV} (hlo : lo ≤ σ.length) (h : enterA P cfg call caller lo σ f args = some (r, σ')) : Keeps lo σ σ' := by
  have hs : ∀ {as : List AV} {σ σ' : Sto} {vs : List AV}, snapsW (snap lo 6) σ as = some (vs, σ') → Keeps lo σ σ' := fun h => snapsW_keeps (snap_keeps 6) h
  unfold enterA at h
  split at h
  · exact cloneA_keeps hlo h
  · split at h
    · split at h
      · rename_i e1
        split at h
        · split at h
          · split at h
            · cases h; exact hs e1
            · cases h
          · cases h
        · cases h
      · cases h
    · split at h
      · exact hc _ _ _ _ _ _ hlo h
      · split at h
        · rename_i e1
          unfold readW at h
          split at h
          · split at h
            · split at h
              · split at h
                · cases h; exact hs e1
                · cases h
              · cases h
            · cases h
          · cases h
        · cases h
      · split at h
        · rename_i e1
          have k := hs e1
          exact k.trans ((hc _ _ _ _ _ _ (Nat.le_refl _) h).mono (Nat.le_trans hlo k.1))
        · cases h
      · split at h
        · rename_i e1
          have k := hs e1
          split at h
          · rename_i e2
            have k2 := hc _ _ _ _ _ _ (Nat.le_trans hlo k.1) e2
            split at h
            · rename_i e3
              exact ((k.trans k2).trans (shutA_keeps e3)).trans (snap_keeps 6 _ _ _ _ h)
            · cases h
          · cases h
        · cases h

theorem callA_keeps {cfg : Cfg} {call : Caller} (hc : CallKeeps call) {caller lo : Nat} {σ σ' : Sto} {fr : List AV} {c : Call} {r : AV} (hlo : lo ≤ σ.length) (h : callA P cfg call caller lo fr σ c = some (r, σ')) : Keeps lo σ σ' := by
  unfold callA at h
  split at h
  · cases h
  · split at h
    · split at h
      · exact appendA_keeps hlo h
      · exact copyA_keeps h
      · exact clearA_keeps h
      all_goals first
        | (simp only [Option.map_eq_some_iff, Prod.mk.injEq] at h; obtain ⟨_, _, _, rfl⟩ := h; exact .refl _ _)
        | cases h
    · split at h
      · exact enterA_keeps hc hlo h
      · cases h
    · cases h

theorem opA_keeps {cfg : Cfg} {call : Caller} (hc : CallKeeps call) {caller lo : Nat} {σ σ' : Sto} {fr : List AV} {o : Op} {r : AV} (hlo : lo ≤ σ.length) (h : opA P cfg call caller lo fr σ o = some (r, σ')) : Keeps lo σ σ' := by
  cases o
  case call c => exact callA_keeps hc hlo (by simpa only [opA] using h)
  case makeFunc fn a b =>
    cases fn with
    | func f =>
      simp only [opA, opPick, opAlloc, opBox, opBuild, opBuildSlice, op1, op2, opStore, opMkIface, opMakeFunc, opMakeSlice, opSlice, opExtract, sameA] at h
      split at h
      · cases h; exact .refl _ _
      · cases h
    | _ => cases h
  case store t a x =>
    simp only [opA, opPick, opAlloc, opBox, opBuild, opBuildSlice, op1, op2, opStore, opMkIface, opMakeFunc, opMakeSlice, opSlice, opExtract, sameA] at h
    split at h
    · simp only [Option.map_eq_some_iff, Prod.mk.injEq] at h
      obtain ⟨_, h, _, rfl⟩ := h
      exact (storeA_keeps h).1
    · cases h
  all_goals first
    | (simp only [opA, opPick, opAlloc, opBox, opBuild, opBuildSlice, op1, op2, opStore, opMkIface, opMakeFunc, opMakeSlice, opSlice, opExtract, sameA] at h; cases h; done)
    | (simp only [opA, opPick, opAlloc, opBox, opBuild, opBuildSlice, op1, op2, opStore, opMkIface, opMakeFunc, opMakeSlice, opSlice, opExtract, sameA, Option.map_eq_some_iff, Prod.mk.injEq] at h; obtain ⟨_, _, _, rfl⟩ := h; exact .refl _ _)
    | skip
  all_goals (simp only [opA, opPick, opAlloc, opBox, opBuild, opBuildSlice, op1, op2, opStore, opMkIface, opMakeFunc, opMakeSlice, opSlice, opExtract, sameA] at h)
  all_goals (repeat' split at h)
  all_goals first
    | (cases h; done)
    | (cases h; exact .app hlo _)
    | (cases h; exact .refl _ _)
    | exact makeSliceA_keeps hlo h
    | (simp only [Option.map_eq_some_iff, Prod.mk.injEq] at h; obtain ⟨_, _, _, rfl⟩ := h; exact .refl _ _)

theorem opsA_keeps {cfg : Cfg} {call : Caller} (hc : CallKeeps call) {caller lo : Nat} {ops : Array Oper} : ∀ {l : List Oper} {fr fr' : List AV} {σ σ' : Sto}, lo ≤ σ.length → opsA P cfg call caller lo ops l fr σ = some (fr', σ') → Keeps lo σ σ'
  | [], _, _, σ, σ', _, h => by simp [opsA] at h; obtain ⟨_, rfl⟩ := h; exact .refl _ _
  | o :: rest, fr, fr', σ, σ', hlo, h => by
    simp only [opsA] at h
    split at h
    · split at h
      · rename_i e
        have k := opA_keeps hc hlo e
        exact k.trans (opsA_keeps hc (Nat.le_trans hlo k.1) h)
      · cases h
    · exact opsA_keeps hc hlo h
    · cases h

theorem drawA_keeps {cfg : Cfg} {call : Caller} (hc : CallKeeps call) {caller lo : Nat} {ops : Array Oper} : ∀ {l : List Oper} {tr tr' : List (Option Nat)} {fr fr' : List AV} {σ σ' : Sto}, lo ≤ σ.length → drawA P cfg call caller lo ops l tr fr σ = some (tr', fr', σ') → Keeps lo σ σ'
  | [], _, _, _, _, σ, σ', _, h => by simp [drawA] at h; obtain ⟨_, _, rfl⟩ := h; exact .refl _ _
  | o :: rest, tr, tr', fr, fr', σ, σ', hlo, h => by
    simp only [drawA] at h
    split at h
    · split at h
      · rename_i e
        rename_i σ1
        have k : Keeps lo σ σ1 := by
          by_cases c : classA cfg caller o.op = 2
          · rw [if_pos c] at e; exact opA_keeps hc hlo e
          · rw [if_neg c] at e; exact (opA_keeps hc (Nat.le_refl _) e).mono hlo
        exact k.trans (drawA_keeps hc (Nat.le_trans hlo k.1) h)
      · cases h
    · exact drawA_keeps hc hlo h
    · cases h

theorem regionA_keeps {cfg : Cfg} {call : Caller} (hc : CallKeeps call) {caller lo : Nat} {ops : Array Oper} {fr fr' : List AV} {σ σ' : Sto} (hlo : lo ≤ σ.length) (h : regionA P cfg call caller lo ops fr σ = some (fr', σ')) : Keeps lo σ σ' := by
  unfold regionA at h
  split at h
  · split at h
    · rename_i e
      split at h
      · cases h; exact drawA_keeps hc hlo e
      · cases h
    · cases h
  · cases h

theorem blankA_get {n0 : Nat} {L : List Nat} : ∀ {σ : Sto} {b i : Nat}, (blankA n0 L b σ)[i]? = (σ[i]?).map fun x => if keptA n0 L (b + i) = true then x else .box [] true
  | [], _, _ => by simp [blankA]
  | x :: σ, b, 0 => by simp [blankA]
  | x :: σ, b, i + 1 => by simp only [blankA, List.getElem?_cons_succ]; rw [blankA_get, show b + 1 + i = b + (i + 1) by omega]

theorem blankA_length {n0 : Nat} {L : List Nat} : ∀ {σ : Sto} {b : Nat}, (blankA n0 L b σ).length = σ.length
  | [], _ => rfl
  | _ :: σ, _ => by simp [blankA, blankA_length]

theorem max_le {n0 : Nat} : ∀ {L : List Nat} {a : Nat}, a ≤ L.foldl (fun a b => max a (b + 1)) a
  | [], _ => Nat.le_refl _
  | b :: L, a => Nat.le_trans (Nat.le_max_left a (b + 1)) (max_le (n0 := n0) (L := L))

theorem max_mem : ∀ {L : List Nat} {a b : Nat}, b ∈ L → b < L.foldl (fun a b => max a (b + 1)) a
  | c :: L, a, b, h => by
    simp only [List.foldl_cons]
    rcases List.mem_cons.1 h with rfl | h
    · exact Nat.lt_of_lt_of_le (by omega) (max_le (n0 := 0) (L := L) (a := max a (b + 1)))
    · exact max_mem h

theorem gc_keeps {lo n0 : Nat} {dead : List Nat} {fr : List AV} {σ0 σ : Sto} (hn : n0 = σ0.length) (hlo : lo ≤ n0) (h : Keeps lo σ0 σ) : Keeps lo σ0 (gcA dead n0 fr σ).2 := by
  subst hn
  unfold gcA
  split
  · exact h
  · simp only
    generalize reachA σ0.length σ (σ.length - σ0.length) (addNew σ0.length (AV.blockss (clearA' dead fr) ++ (σ.take σ0.length).flatMap fun x => AV.blockss x.parts) []) = L
    split
    · have hmn : σ0.length ≤ L.foldl (fun a b => max a (b + 1)) σ0.length := max_le (n0 := 0)
      refine ⟨by rw [blankA_length, List.length_take]; have := h.1; omega, fun b hb => ?_⟩
      rw [blankA_get, Nat.zero_add, List.getElem?_take, if_pos (by omega), ← h.2 b hb]
      have hk : keptA σ0.length L b = true := by simp [keptA]; left; omega
      cases σ[b]? <;> simp [hk]
    · exact h

theorem loopW_keeps {lo n0 : Nat} {dead : List Nat} {x : Option (XE × List AV × Sto)} {σ0 σ' : Sto} {e : XE} {fr' : List AV} (hn : n0 = σ0.length) (hlo : lo ≤ n0) (hx : ∀ e fr1 σ1, x = some (e, fr1, σ1) → Keeps lo σ0 σ1)
    (h : loopW dead n0 x = some (e, fr', σ')) : Keeps lo σ0 σ' := by
  unfold loopW at h
  split at h
  · rename_i fr1 σ1
    simp only [Option.some.injEq, Prod.mk.injEq] at h
    obtain ⟨_, h⟩ := h
    have := gc_keeps (dead := dead) (fr := fr1) hn hlo (hx _ _ _ rfl)
    rw [h] at this; exact this
  · exact hx _ _ _ h

def RecKeeps (rec : Exec) : Prop := ∀ fn lo c fr σ e fr' σ', lo ≤ σ.length → rec fn lo c fr σ = some (e, fr', σ') → Keeps lo σ σ'

theorem callW_keeps {rec : Exec} (h : RecKeeps rec) : CallKeeps (callW P rec) := by
  intro f args lo σ r σ' hlo hc
  unfold callW at hc
  split at hc
  · split at hc
    · rename_i fn' _ b _
      unfold finA at hc
      split at hc
      · cases hc
      · rename_i e
        simp only [Option.map_eq_some_iff, Prod.mk.injEq] at hc
        obtain ⟨_, _, _, rfl⟩ := hc
        exact h _ _ _ _ _ _ _ _ hlo e
      · cases hc
    · cases hc
  · cases hc

theorem seqW_keeps {rec : Exec} (h : RecKeeps rec) {fn lo : Nat} {b : Code} {x : Option (XE × List AV × Sto)} {σ σ' : Sto} {e : XE} {fr' : List AV} (hlo : lo ≤ σ.length)
    (hx : ∀ e fr1 σ1, x = some (e, fr1, σ1) → Keeps lo σ σ1) (hs : seqW rec fn lo b x = some (e, fr', σ')) : Keeps lo σ σ' := by
  unfold seqW at hs
  split at hs
  · have k := hx _ _ _ rfl
    exact k.trans (h _ _ _ _ _ _ _ _ (Nat.le_trans hlo k.1) hs)
  · exact hx _ _ _ hs

theorem execW_keeps {cfg : Cfg} {rec : Exec} (h : RecKeeps rec) : RecKeeps (execW P cfg rec) := by
  intro fn lo c fr σ e fr' σ' hlo hc
  have hk := callW_keeps (P := P) h
  cases c
  case region id ops draw =>
    cases draw <;> simp only [execW, normW, Option.map_eq_some_iff, Prod.mk.injEq] at hc
    · obtain ⟨⟨fr1, σ1⟩, hc, _, _, rfl⟩ := hc
      exact opsA_keeps hk hlo hc
    · obtain ⟨⟨fr1, σ1⟩, hc, _, _, rfl⟩ := hc
      exact regionA_keeps hk hlo hc
  all_goals simp only [execW] at hc
  case skip => cases hc; exact .refl _ _
  case label => cases hc; exact .refl _ _
  case exit => cases hc; exact .refl _ _
  case ret => cases hc; exact .refl _ _
  case seq a b => exact seqW_keeps h hlo (fun _ _ _ e => h _ _ _ _ _ _ _ _ hlo e) hc
  case loop b => exact seqW_keeps h hlo (fun _ _ _ e => loopW_keeps rfl hlo (fun _ _ _ e => h _ _ _ _ _ _ _ _ hlo e) e) hc
  case scope b => exact h _ _ _ _ _ _ _ _ hlo hc
  case cond x a b =>
    unfold condW at hc
    split at hc
    · exact h _ _ _ _ _ _ _ _ hlo hc
    · exact h _ _ _ _ _ _ _ _ hlo hc
    · cases hc
  case block id b =>
    unfold blockW at hc
    split at hc
    · rename_i e1
      split at hc <;> (cases hc; exact h _ _ _ _ _ _ _ _ hlo e1)
    · exact h _ _ _ _ _ _ _ _ hlo hc
  all_goals cases hc

theorem exec_keeps {cfg : Cfg} : ∀ (k : Nat), RecKeeps (exec P cfg k)
  | 0 => fun _ _ _ _ _ _ _ _ _ h => by simp [exec] at h
  | k + 1 => execW_keeps (exec_keeps k)

theorem callF_keeps {cfg : Cfg} (k : Nat) : CallKeeps (callF P cfg k) := callW_keeps (exec_keeps k)
end Go.Abs

/- Operations that leave what was there, in an order that is not the text's. -/
namespace Go.Abs
open Go.RowKit (Below)

variable {P : Program} {R : Ren} {σ : Sto} {w : World} {lo base : Nat}

def Ren.cut (R : Ren) (T : Nat) : Ren := ⟨fun b => if b < T then R.box b else none, fun b => if b < T then R.rows b else none, R.im⟩

theorem Ren.cut_le_cut (R : Ren) {T T' : Nat} (h : T ≤ T') : (R.cut T).Le (R.cut T') :=
  ⟨fun b B e => by simp only [Ren.cut] at *; split at e <;> first | cases e | (rw [if_pos (by omega)]; exact e),
   fun b r e => ⟨r, by simp only [Ren.cut] at *; split at e <;> first | cases e | (rw [if_pos (by omega)]; exact e), Nat.le_refl _, fun _ => rfl⟩, fun _ _ _ e => e⟩

theorem Ren.cut_le (R : Ren) (T : Nat) : (R.cut T).Le R :=
  ⟨fun b B e => by simp only [Ren.cut] at *; split at e <;> first | cases e | exact e,
   fun b r e => ⟨r, by simp only [Ren.cut] at *; split at e <;> first | cases e | exact e, Nat.le_refl _, fun _ => rfl⟩, fun _ _ _ e => e⟩

theorem Ren.le_cut {R0 R : Ren} {T : Nat} (h : R0.Le R) (d : ∀ b, T ≤ b → R0.box b = none ∧ R0.rows b = none) : R0.Le (R.cut T) := by
  refine ⟨fun b B e => ?_, fun b r e => ?_, h.im⟩
  · simp only [Ren.cut]
    by_cases hb : b < T
    · rw [if_pos hb]; exact h.box b B e
    · rw [(d b (by omega)).1] at e; cases e
  · simp only [Ren.cut]
    by_cases hb : b < T
    · rw [if_pos hb]; exact h.rows b r e
    · rw [(d b (by omega)).2] at e; cases e

theorem Ren.cut_id {T : Nat} (d : ∀ b, T ≤ b → R.box b = none ∧ R.rows b = none) : R.cut T = R := by
  cases R with
  | mk bx rw' im =>
    simp only [Ren.cut, Ren.mk.injEq]
    refine ⟨funext fun b => ?_, funext fun b => ?_, trivial⟩
    · by_cases hb : b < T
      · rw [if_pos hb]
      · rw [if_neg hb]; exact ((d b (by omega)).1).symm
    · by_cases hb : b < T
      · rw [if_pos hb]
      · rw [if_neg hb]; exact ((d b (by omega)).2).symm

theorem Ren.cut_cut (R : Ren) {T T' : Nat} (h : T ≤ T') : (R.cut T').cut T = R.cut T := by
  simp only [Ren.cut, Ren.mk.injEq]
  refine ⟨funext fun b => ?_, funext fun b => ?_, trivial⟩ <;> (by_cases hb : b < T <;> simp [hb]; intro hn; omega)

/-- What is known, and what one operation adds. -/
def Ren.join (R : Ren) (N : Nat) (R1 : Ren) : Ren := ⟨fun b => if b < N then R1.box b else R.box b, fun b => if b < N then R1.rows b else R.rows b, R1.im⟩

section
variable {R1 : Ren} {τ σk σk' : Sto} {w' : World} {lo0 base0 : Nat}

/-- One quiet operation, done beside others. -/
structure Lift (R : Ren) (w : World) (σk : Sto) (R1 : Ren) (σk' : Sto) (w' : World) : Prop where
  step : Step (R.cut σk.length) σk w σk.length w.heap.size R1 σk' w'
  free : ∀ b, σk.length ≤ b → b < σk'.length → R.box b = none ∧ R.rows b = none

theorem Lift.box_old (h : Lift R w σk R1 σk' w') {b : Nat} (hb : ¬ (σk.length ≤ b ∧ b < σk'.length)) : (R.join σk'.length R1).box b = R.box b := by
  simp only [Ren.join]
  split
  · rw [h.step.boxOld b (by omega)]; simp only [Ren.cut]; rw [if_pos (by omega)]
  · rfl

theorem Lift.rows_old (h : Lift R w σk R1 σk' w') {b : Nat} (hb : ¬ (σk.length ≤ b ∧ b < σk'.length)) : (R.join σk'.length R1).rows b = R.rows b := by
  simp only [Ren.join]
  split
  · rw [h.step.rowsOld b (by omega) (by omega)]; simp only [Ren.cut]; rw [if_pos (by omega)]
  · rfl

theorem Lift.le (h : Lift R w σk R1 σk' w') : R.Le (R.join σk'.length R1) := by
  refine ⟨fun b B e => ?_, fun b r e => ⟨r, ?_, Nat.le_refl _, fun _ => rfl⟩, fun B o v e => h.step.le.im B o v e⟩
  · by_cases hb : σk.length ≤ b ∧ b < σk'.length
    · rw [(h.free b hb.1 hb.2).1] at e; cases e
    · rw [h.box_old hb]; exact e
  · by_cases hb : σk.length ≤ b ∧ b < σk'.length
    · rw [(h.free b hb.1 hb.2).2] at e; cases e
    · rw [h.rows_old hb]; exact e

theorem Lift.le_cut (h : Lift R w σk R1 σk' w') (T : Nat) : (R.cut T).Le ((R.join σk'.length R1).cut T) := by
  refine ⟨fun b B e => ?_, fun b r e => ⟨r, ?_, Nat.le_refl _, fun _ => rfl⟩, fun B o v e => h.step.le.im B o v e⟩
  · simp only [Ren.cut] at e ⊢
    split at e
    · rename_i hT; rw [if_pos hT]; exact h.le.box b B e
    · cases e
  · simp only [Ren.cut] at e ⊢
    split at e
    · rename_i hT; rw [if_pos hT]
      by_cases hb : σk.length ≤ b ∧ b < σk'.length
      · rw [(h.free b hb.1 hb.2).2] at e; cases e
      · rw [h.rows_old hb]; exact e
    · cases e

/-- What the operation made is known behind it. -/
theorem Lift.own_le (h : Lift R w σk R1 σk' w') {T : Nat} (hT : σk'.length ≤ T) : R1.Le ((R.join σk'.length R1).cut T) := by
  refine ⟨fun b B e => ?_, fun b r e => ⟨r, ?_, Nat.le_refl _, fun _ => rfl⟩, fun _ _ _ e => e⟩
  · have hb : b < σk'.length := h.step.inv.at_lt (.inl e)
    simp only [Ren.cut, Ren.join]; rw [if_pos (by omega), if_pos hb]; exact e
  · have hb : b < σk'.length := h.step.inv.at_lt (.inr ⟨r, e, rfl⟩)
    simp only [Ren.cut, Ren.join]; rw [if_pos (by omega), if_pos hb]; exact e

theorem Lift.inv (h : Lift R w σk R1 σk' w') (I : Inv (R.cut τ.length) τ w lo0 base0) (hb0 : base0 ≤ w.heap.size)
    (ha : τ.length ≤ σk.length ∨ (σk'.length ≤ τ.length ∧ ∀ b, σk.length ≤ b → b < σk'.length → τ[b]? = σk'[b]?)) : Inv ((R.join σk'.length R1).cut τ.length) τ w' lo0 base0 := by
  have hN := h.step.len
  -- a place is of the operation, or old
  have hAt : ∀ {b B}, At ((R.join σk'.length R1).cut τ.length) b B → (σk.length ≤ b ∧ b < σk'.length ∧ σk'.length ≤ τ.length ∧ At R1 b B) ∨ (¬ (σk.length ≤ b ∧ b < σk'.length) ∧ At (R.cut τ.length) b B) := by
    intro b B hA
    have hbT : b < τ.length := by
      rcases hA with hA | ⟨r, hA, _⟩ <;> (simp only [Ren.cut] at hA; split at hA <;> first | assumption | cases hA)
    by_cases hb : σk.length ≤ b ∧ b < σk'.length
    · refine .inl ⟨hb.1, hb.2, ?_, ?_⟩
      · rcases ha with ha | ha
        · omega
        · exact ha.1
      · rcases hA with hA | ⟨r, hA, e⟩
        · simp only [Ren.cut, Ren.join] at hA; rw [if_pos hbT, if_pos hb.2] at hA; exact .inl hA
        · simp only [Ren.cut, Ren.join] at hA; rw [if_pos hbT, if_pos hb.2] at hA; exact .inr ⟨r, hA, e⟩
    · refine .inr ⟨hb, ?_⟩
      rcases hA with hA | ⟨r, hA, e⟩
      · left; simp only [Ren.cut] at hA ⊢; rw [if_pos hbT] at hA ⊢; rw [h.box_old hb] at hA; exact hA
      · right; refine ⟨r, ?_, e⟩; simp only [Ren.cut] at hA ⊢; rw [if_pos hbT] at hA ⊢; rw [h.rows_old hb] at hA; exact hA
  have hbox : ∀ {b B}, ((R.join σk'.length R1).cut τ.length).box b = some B → (σk.length ≤ b ∧ b < σk'.length ∧ σk'.length ≤ τ.length ∧ R1.box b = some B) ∨ (¬ (σk.length ≤ b ∧ b < σk'.length) ∧ (R.cut τ.length).box b = some B) := by
    intro b B hA
    simp only [Ren.cut] at hA
    split at hA
    · rename_i hbT
      by_cases hb : σk.length ≤ b ∧ b < σk'.length
      · refine .inl ⟨hb.1, hb.2, by rcases ha with ha | ha <;> omega, ?_⟩
        simp only [Ren.join] at hA; rw [if_pos hb.2] at hA; exact hA
      · refine .inr ⟨hb, ?_⟩
        simp only [Ren.cut]; rw [if_pos hbT, ← h.box_old hb]; exact hA
    · cases hA
  have hrows : ∀ {b r}, ((R.join σk'.length R1).cut τ.length).rows b = some r → (σk.length ≤ b ∧ b < σk'.length ∧ σk'.length ≤ τ.length ∧ R1.rows b = some r) ∨ (¬ (σk.length ≤ b ∧ b < σk'.length) ∧ (R.cut τ.length).rows b = some r) := by
    intro b r hA
    simp only [Ren.cut] at hA
    split at hA
    · rename_i hbT
      by_cases hb : σk.length ≤ b ∧ b < σk'.length
      · refine .inl ⟨hb.1, hb.2, by rcases ha with ha | ha <;> omega, ?_⟩
        simp only [Ren.join] at hA; rw [if_pos hb.2] at hA; exact hA
      · refine .inr ⟨hb, ?_⟩
        simp only [Ren.cut]; rw [if_pos hbT, ← h.rows_old hb]; exact hA
    · cases hA
  have hag : ∀ {b}, σk.length ≤ b → b < σk'.length → σk'.length ≤ τ.length → τ[b]? = σk'[b]? := by
    intro b h1 h2 h3
    rcases ha with ha | ha
    · omega
    · exact ha.2 b h1 h2
  have hheap : ∀ B, B < w.heap.size → w'.heap[B]? = w.heap[B]? := h.step.below.block
  have hle := h.le_cut τ.length
  have himOld : ∀ {b B}, At (R.cut τ.length) b B → (∀ o, R.im B o = none) → ∀ o, R1.im B o = none := fun {b B} hA hn o => by
    cases e : R1.im B o with
    | none => rfl
    | some v =>
      have h1 := h.step.imNew B o v e (hn o)
      have h2 := I.at_heap hA
      omega
  have hnew : ∀ {b B}, σk.length ≤ b → At R1 b B → w.heap.size ≤ B := fun h1 hA => h.step.inv.base _ _ h1 hA
  refine ⟨h.step.inv.im, fun b hb => ⟨by simp only [Ren.cut]; rw [if_neg (by omega)], by simp only [Ren.cut]; rw [if_neg (by omega)]⟩, ?_, ?_, ?_, ?_, ?_, ?_, ?_, ?_⟩
  · intro b cs fz hτ
    cases e : ((R.join σk'.length R1).cut τ.length).rows b with
    | none => rfl
    | some r =>
      rcases hrows e with ⟨h1, h2, h3, h4⟩ | ⟨h1, h2⟩
      · rw [hag h1 h2 h3] at hτ; rw [h.step.inv.kindB b cs fz hτ] at h4; cases h4
      · rw [I.kindB b cs fz hτ] at h2; cases h2
  · intro b es g sz fz hτ
    cases e : ((R.join σk'.length R1).cut τ.length).box b with
    | none => rfl
    | some B =>
      rcases hbox e with ⟨h1, h2, h3, h4⟩ | ⟨h1, h2⟩
      · rw [hag h1 h2 h3] at hτ; rw [h.step.inv.kindR b es g sz fz hτ] at h4; cases h4
      · rw [I.kindR b es g sz fz hτ] at h2; cases h2
  · intro b cs fz hτ B e
    rcases hbox e with ⟨h1, h2, h3, h4⟩ | ⟨h1, h2⟩
    · rw [hag h1 h2 h3] at hτ
      exact (h.step.inv.box b cs fz hτ B h4).mono (h.own_le h3) rfl
    · exact (I.box b cs fz hτ B h2).mono hle (hheap B (I.at_heap (.inl h2)))
  · intro b es g sz fz hτ r e
    rcases hrows e with ⟨h1, h2, h3, h4⟩ | ⟨h1, h2⟩
    · rw [hag h1 h2 h3] at hτ
      obtain ⟨g1, g2⟩ := h.step.inv.rows b es g sz fz hτ r h4
      exact ⟨g1, g2.mono (h.own_le h3) rfl⟩
    · obtain ⟨g1, g2⟩ := I.rows b es g sz fz hτ r h2
      exact ⟨g1, g2.mono hle (hheap _ (I.at_heap (.inr ⟨r, h2, rfl⟩)))⟩
  · intro b b' B h1 h2
    rcases hAt h1 with ⟨p1, p2, p3, p4⟩ | ⟨p1, p2⟩ <;> rcases hAt h2 with ⟨q1, q2, q3, q4⟩ | ⟨q1, q2⟩
    · exact h.step.inv.apart b b' B p4 q4
    · have := hnew p1 p4; have := I.at_heap q2; omega
    · have := hnew q1 q4; have := I.at_heap p2; omega
    · exact I.apart b b' B p2 q2
  · intro b B h1 h2
    rcases hAt h2 with ⟨p1, p2, p3, p4⟩ | ⟨p1, p2⟩
    · exact Nat.le_trans hb0 (hnew p1 p4)
    · exact I.base b B h1 p2
  · intro b cs h1 hτ B e o
    rcases hbox e with ⟨p1, p2, p3, p4⟩ | ⟨p1, p2⟩
    · rw [hag p1 p2 p3] at hτ
      exact h.step.inv.openB b cs p1 hτ B p4 o
    · exact himOld (.inl p2) (I.openB b cs h1 hτ B p2) o
  · intro b es g sz h1 hτ r e o
    rcases hrows e with ⟨p1, p2, p3, p4⟩ | ⟨p1, p2⟩
    · rw [hag p1 p2 p3] at hτ
      exact h.step.inv.openR b es g sz p1 hτ r p4 o
    · exact himOld (.inr ⟨r, p2, rfl⟩) (I.openR b es g sz h1 hτ r p2) o

/-- The step from the region's beginning goes on. -/
theorem Lift.on {R0 : Ren} {w0 : World} {σ : Sto} (h : Lift R w σk R1 σk' w') (st : Step R0 σ w0 lo base R τ w) (hb : base ≤ w.heap.size) (hσ : σ.length ≤ σk.length)
    (ha : τ.length ≤ σk.length ∧ σk'.length ≤ τ.length ∨ (σk'.length ≤ τ.length ∧ ∀ b, σk.length ≤ b → b < σk'.length → τ[b]? = σk'[b]?)) : Step R0 σ w0 lo base (R.join σk'.length R1) τ w' := by
  have hid : R.cut τ.length = R := Ren.cut_id st.inv.dom
  have hT : σk'.length ≤ τ.length := by rcases ha with ha | ha <;> omega
  have hid' : (R.join σk'.length R1).cut τ.length = R.join σk'.length R1 := Ren.cut_id fun b hb => by
    rw [h.box_old (by omega), h.rows_old (by omega)]; exact st.inv.dom b hb
  have I' := h.inv (τ := τ) (lo0 := lo) (base0 := base) (by rw [hid]; exact st.inv) hb (ha.imp (fun h => h.1) id)
  rw [hid'] at I'
  refine ⟨st.le.trans h.le, I', st.below.trans (h.step.below.mono hb), fun B o v e n => ?_, st.keep, st.len, fun b hb' => ?_, fun b h1 h2 => ?_, fun b h1 h2 => ?_⟩
  · cases e' : R.im B o with
    | none => exact Nat.le_trans hb (h.step.imNew B o v e e')
    | some u => exact st.imNew B o u e' n
  · rw [h.box_old (by omega)]; exact st.boxOld b hb'
  · rw [h.rows_old (by omega)]; exact st.rowsOld b h1 h2
  · rw [h.rows_old (by omega)]; exact st.rowsNone b h1 h2
end
end Go.Abs

/- The text's own run of a region, told step by step; and which operations surely come before which. -/
namespace Go.Abs
variable {P : Program}

theorem maskOf_bit {acc : List Nat} {i : Nat} : ∀ {es : List Edge}, (maskOf acc es).testBit i = true → ∃ e ∈ es, Region.binds .any e = true ∧ (e.on = i ∨ (acc.getD e.on 0).testBit i = true)
  | [], h => by simp [maskOf] at h
  | e :: es, h => by
    simp only [maskOf, Nat.testBit_or, Bool.or_eq_true] at h
    rcases h with h | h
    · split at h
      · rename_i hb
        simp only [Nat.testBit_or, Bool.or_eq_true] at h
        refine ⟨e, by simp, hb, ?_⟩
        rcases h with h | h
        · rw [Nat.testBit_two_pow] at h; exact .inl (by simpa using h)
        · exact .inr h
      · simp at h
    · obtain ⟨e', m, k⟩ := maskOf_bit h
      exact ⟨e', by simp [m], k⟩

theorem masks_spec : ∀ (l : List Oper) (acc : List Nat), (∀ i < acc.length, (masks l acc)[i]? = acc[i]?) ∧
    ∀ i o, l[i]? = some o → (masks l acc).getD (acc.length + i) 0 = maskOf ((masks l acc).take (acc.length + i)) o.after.toList
  | [], acc => ⟨fun _ _ => rfl, fun i o h => by simp at h⟩
  | o :: rest, acc => by
    obtain ⟨h1, h2⟩ := masks_spec rest (acc ++ [maskOf acc o.after.toList])
    have hpre : ∀ i < acc.length, (masks (o :: rest) acc)[i]? = acc[i]? := fun i hi => by
      simp only [masks]
      rw [h1 i (by simp; omega), List.getElem?_append_left hi]
    refine ⟨hpre, fun i o' h => ?_⟩
    cases i with
    | zero =>
      simp only [List.getElem?_cons_zero, Option.some.injEq] at h
      subst h
      have e1 : (masks (o :: rest) acc)[acc.length]? = some (maskOf acc o.after.toList) := by
        simp only [masks]
        rw [h1 acc.length (by simp)]
        simp
      have e2 : (masks (o :: rest) acc).take acc.length = acc := by
        apply List.ext_getElem?; intro j
        rw [List.getElem?_take]
        split
        · rename_i hj; exact hpre j hj
        · rename_i hj; exact (List.getElem?_eq_none (by omega)).symm
      simp only [Nat.add_zero, List.getD_eq_getElem?_getD, e1, e2, Option.getD_some]
    | succ i =>
      have := h2 i o' (by simpa using h)
      simp only [List.length_append, List.length_cons, List.length_nil, Nat.zero_add] at this
      simp only [masks]
      rw [show acc.length + (i + 1) = acc.length + 1 + i by omega]
      exact this

/-- What the mask says. -/
theorem mask_bit {ops : Array Oper} {i j : Nat} {o : Oper} (hj : ops[j]? = some o) (h : ((masks ops.toList []).getD j 0).testBit i = true) :
    ∃ e ∈ o.after.toList, Region.binds .any e = true ∧ (e.on = i ∨ e.on < j ∧ ((masks ops.toList []).getD e.on 0).testBit i = true) := by
  have := (masks_spec ops.toList []).2 j o (by simpa using hj)
  simp only [List.length_nil, Nat.zero_add] at this
  rw [this] at h
  obtain ⟨e, m, b, k⟩ := maskOf_bit h
  refine ⟨e, m, b, k.imp id fun k => ?_⟩
  rw [List.getD_eq_getElem?_getD, List.getElem?_take] at k
  split at k
  · rename_i hlt
    exact ⟨hlt, by rw [List.getD_eq_getElem?_getD]; exact k⟩
  · simp at k

def Closed (ops : Array Oper) (L : Array Bool) : Prop := ∀ j o, ops[j]? = some o → L.getD j false = true → ∀ e ∈ o.after, Region.binds .any e = true → L.getD e.on false = true

theorem before_in {ops : Array Oper} {L : Array Bool} (hc : Closed ops L) : ∀ {j : Nat} {o : Oper}, ops[j]? = some o → (∀ e ∈ o.after, Region.binds .any e = true → L.getD e.on false = true) →
    ∀ {i : Nat}, ((masks ops.toList []).getD j 0).testBit i = true → L.getD i false = true := by
  intro j
  induction j using Nat.strongRecOn with
  | ind j ih =>
    intro o hj hr i hb
    obtain ⟨e, m, b, k⟩ := mask_bit hj hb
    have he := hr e (by simpa using m) b
    rcases k with rfl | ⟨hlt, k⟩
    · exact he
    · have hsz : j < ops.size := (Array.getElem?_eq_some_iff.1 hj).1
      have hon : ops[e.on]? = some ops[e.on] := Array.getElem?_eq_getElem (by omega)
      exact ih e.on hlt hon (fun e' m' b' => hc e.on _ hon he e' m' b') k

/-- One step of the text's own run. -/
def StepAt (P : Program) (cfg : Cfg) (call : Caller) (caller lo : Nat) (ops : Array Oper) (o : Oper) (fr : List AV) (σ : Sto) (r : AV) (t : Option Nat) (fr' : List AV) (σ' : Sto) : Prop :=
  fr' = putA fr o.dst r ∧
  ((wantedA ops fr o = some true ∧ opA P cfg call caller (if classA cfg caller o.op = 2 then lo else σ.length) fr σ o.op = some (r, σ') ∧ t = lookA cfg fr o.op) ∨
   (wantedA ops fr o = some false ∧ r = undefA ∧ σ' = σ ∧ t = none))

theorem drawA_trace {cfg : Cfg} {call : Caller} {caller lo : Nat} {ops : Array Oper} : ∀ {l : List Oper} {tr tr' : List (Option Nat)} {fr fr' : List AV} {σ σ' : Sto}, drawA P cfg call caller lo ops l tr fr σ = some (tr', fr', σ') →
    ∃ (F : Nat → List AV) (S : Nat → Sto) (r : Nat → AV), F 0 = fr ∧ S 0 = σ ∧ F l.length = fr' ∧ S l.length = σ' ∧ (∀ i < tr.length, tr'[i]? = tr[i]?) ∧
      ∀ i o, l[i]? = some o → StepAt P cfg call caller lo ops o (F i) (S i) (r i) (tr'.getD (tr.length + i) none) (F (i + 1)) (S (i + 1))
  | [], tr, tr', fr, fr', σ, σ', h => by
    simp only [drawA, Option.some.injEq, Prod.mk.injEq] at h
    obtain ⟨rfl, rfl, rfl⟩ := h
    exact ⟨fun _ => fr, fun _ => σ, fun _ => undefA, rfl, rfl, rfl, rfl, fun _ _ => rfl, fun i o h => by simp at h⟩
  | o :: rest, tr, tr', fr, fr', σ, σ', h => by
    simp only [drawA] at h
    -- either way the rest goes on from a state
    have go : ∀ (t : Option Nat) (r0 : AV) (σ1 : Sto), drawA P cfg call caller lo ops rest (tr ++ [t]) (putA fr o.dst r0) σ1 = some (tr', fr', σ') →
        ((wantedA ops fr o = some true ∧ opA P cfg call caller (if classA cfg caller o.op = 2 then lo else σ.length) fr σ o.op = some (r0, σ1) ∧ t = lookA cfg fr o.op) ∨ (wantedA ops fr o = some false ∧ r0 = undefA ∧ σ1 = σ ∧ t = none)) →
        ∃ (F : Nat → List AV) (S : Nat → Sto) (r : Nat → AV), F 0 = fr ∧ S 0 = σ ∧ F (o :: rest).length = fr' ∧ S (o :: rest).length = σ' ∧ (∀ i < tr.length, tr'[i]? = tr[i]?) ∧
          ∀ i o', (o :: rest)[i]? = some o' → StepAt P cfg call caller lo ops o' (F i) (S i) (r i) (tr'.getD (tr.length + i) none) (F (i + 1)) (S (i + 1)) := by
      intro t r0 σ1 h hs
      obtain ⟨F, S, r, h1, rfl, h3, h4, h5, h6⟩ := drawA_trace h
      refine ⟨fun | 0 => fr | i + 1 => F i, fun | 0 => σ | i + 1 => S i, fun | 0 => r0 | i + 1 => r i, rfl, rfl, h3, h4, fun i hi => ?_, fun i o' ho => ?_⟩
      · rw [h5 i (by simp; omega), List.getElem?_append_left hi]
      · cases i with
        | zero =>
          simp only [List.getElem?_cons_zero, Option.some.injEq] at ho
          subst ho
          have ht : tr'.getD (tr.length + 0) none = t := by
            rw [Nat.add_zero, List.getD_eq_getElem?_getD, h5 tr.length (by simp)]; simp
          rw [ht]
          exact ⟨h1, hs⟩
        | succ i =>
          have := h6 i o' (by simpa using ho)
          simp only [List.length_append, List.length_cons, List.length_nil, Nat.zero_add] at this
          rw [show tr.length + (i + 1) = tr.length + 1 + i by omega]
          exact this
    split at h
    · rename_i hw
      split at h
      · rename_i r0 σ1 e
        exact go _ _ _ h (.inl ⟨hw, e, rfl⟩)
      · cases h
    · rename_i hw
      exact go _ _ _ h (.inr ⟨hw, rfl, rfl, rfl⟩)
    · cases h
end Go.Abs

/- A region whose order is drawn goes as the text's own order does. -/
namespace Go.Abs
open Go.RowKit (Below)

variable {P : Program}

/-- The text's own run of a region, and what was looked at beforehand. -/
structure Reg (P : Program) (cfg : Cfg) (call : Caller) (caller lo : Nat) (ops : Array Oper) (F : Nat → List AV) (S : Nat → Sto) (r : Nat → AV) (tr : List (Option Nat)) : Prop where
  steps : ∀ i o, ops[i]? = some o → StepAt P cfg call caller lo ops o (F i) (S i) (r i) (tr.getD i none) (F (i + 1)) (S (i + 1))
  ok : drawOk cfg caller ops = true
  pairs : (pairsA cfg caller ops).all (pairOk tr) = true
  dsts : ∀ (i : Nat) o, ops[i]? = some o → ∀ d, o.dst = some d → d < (F 0).length
  keeps : CallKeeps call
  lo : lo ≤ (S 0).length

section
variable {cfg : Cfg} {call : Caller} {caller lo : Nat} {ops : Array Oper} {F : Nat → List AV} {S : Nat → Sto} {r : Nat → AV} {tr : List (Option Nat)}

theorem zip_mem {α : Type} {l : List α} {i : Nat} {x : α} (h : l[i]? = some x) : (x, i) ∈ l.zipIdx := by
  rw [List.mem_zipIdx_iff_getElem?]; exact h

theorem Reg.pair (g : Reg P cfg call caller lo ops F S r tr) {i j : Nat} {x y : Oper} (hx : ops[i]? = some x) (hy : ops[j]? = some y) (hij : i < j) :
    (x.dst = none ∨ x.dst ≠ y.dst) ∧ (((masks ops.toList []).getD j 0).testBit i = true ∨ besideA cfg caller ops (firstOf cfg caller ops.toList) x j y = true) := by
  have h := g.ok
  unfold drawOk at h
  simp only [List.all_eq_true, Bool.and_eq_true, Bool.or_eq_true] at h
  have h1 := (h (y, j) (zip_mem (by simpa using hy))).2 (x, i) (zip_mem (by rw [List.getElem?_take, if_pos hij]; simpa using hx))
  simp only at h1
  refine ⟨h1.1.imp (by simp) (by simp), h1.2⟩

theorem Reg.edges (g : Reg P cfg call caller lo ops F S r tr) {j : Nat} {y : Oper} (hy : ops[j]? = some y) : ∀ e ∈ y.after, Region.binds .any e = true → e.on < j := by
  have h := g.ok
  unfold drawOk at h
  simp only [List.all_eq_true, Bool.and_eq_true, Bool.or_eq_true] at h
  have h1 := (h (y, j) (zip_mem (by simpa using hy))).1
  simp only [Array.all_eq_true_iff_forall_mem, Bool.or_eq_true, Bool.not_eq_true', decide_eq_true_eq] at h1
  intro e he hb
  rcases h1 e he with h | h
  · rw [h] at hb; cases hb
  · exact h

/-- A look, and what may write, that nothing orders. -/
theorem Reg.apart (g : Reg P cfg call caller lo ops F S r tr) {i j : Nat} {x y : Oper} (hx : ops[i]? = some x) (hy : ops[j]? = some y) (hij : i < j) (hn : ((masks ops.toList []).getD j 0).testBit i = false) :
    (mayLook x.op = true → classA cfg caller y.op = 2 → ∀ b, tr.getD i none = some b → isStore y.op = true ∧ tr.getD j none ≠ some b) ∧
    (mayLook y.op = true → classA cfg caller x.op = 2 → ∀ b, tr.getD j none = some b → isStore x.op = true ∧ tr.getD i none ≠ some b) := by
  have h := g.pairs
  simp only [List.all_eq_true] at h
  have hm : ∀ p, p ∈ ((if mayLook x.op && classA cfg caller y.op == 2 then [(i, j, isStore y.op)] else []) ++ (if mayLook y.op && classA cfg caller x.op == 2 then [(j, i, isStore x.op)] else [])) → p ∈ pairsA cfg caller ops := by
    intro p hp
    unfold pairsA
    simp only [List.mem_flatMap]
    refine ⟨(y, j), zip_mem (by simpa using hy), (x, i), zip_mem (by rw [List.getElem?_take, if_pos hij]; simpa using hx), ?_⟩
    simp only [hn, Bool.false_eq_true, if_false]
    exact hp
  constructor
  · intro h1 h2 b hb
    have := h (i, j, isStore y.op) (hm _ (by simp [h1, h2]))
    simp only [pairOk, hb, Bool.and_eq_true, bne_iff_ne, ne_eq] at this
    exact this
  · intro h1 h2 b hb
    have := h (j, i, isStore x.op) (hm _ (by simp [h1, h2]))
    simp only [pairOk, hb, Bool.and_eq_true, bne_iff_ne, ne_eq] at this
    exact this

theorem look_may {fr : List AV} {o : Op} {b : Nat} (h : lookA cfg fr o = some b) : mayLook o = true ∨ classA cfg caller o = 2 := by
  cases o <;> simp [lookA, mayLook, classA] at h ⊢

theorem class_two (o : Op) : classA cfg caller o = 0 ∨ classA cfg caller o = 1 ∨ classA cfg caller o = 2 := by
  cases o <;> simp only [classA] <;> try (simp; done)
  rename_i c
  split
  all_goals (try split)
  all_goals (try split)
  all_goals simp

/-- One step keeps what stood below the bound; and all that was there, unless it is of the last class. -/
theorem Reg.keep1 (g : Reg P cfg call caller lo ops F S r tr) {i : Nat} {o : Oper} (ho : ops[i]? = some o) (hlo : lo ≤ (S i).length) : Keeps lo (S i) (S (i + 1)) ∧ (classA cfg caller o.op ≠ 2 → Keeps (S i).length (S i) (S (i + 1))) := by
  obtain ⟨_, h | h⟩ := g.steps i o ho
  · obtain ⟨_, h, _⟩ := h
    by_cases c : classA cfg caller o.op = 2
    · rw [if_pos c] at h
      exact ⟨opA_keeps g.keeps hlo h, fun n => absurd c n⟩
    · rw [if_neg c] at h
      have := opA_keeps g.keeps (Nat.le_refl _) h
      exact ⟨this.mono hlo, fun _ => this⟩
  · rw [h.2.2.1]; exact ⟨.refl _ _, fun _ => .refl _ _⟩

theorem Reg.lo_le (g : Reg P cfg call caller lo ops F S r tr) : ∀ {i : Nat}, i ≤ ops.size → lo ≤ (S i).length
  | 0, _ => g.lo
  | i + 1, h => by
    have hi := g.lo_le (i := i) (by omega)
    exact Nat.le_trans hi (g.keep1 (Array.getElem?_eq_getElem (by omega)) hi).1.1

theorem Reg.len_le (g : Reg P cfg call caller lo ops F S r tr) {i : Nat} : ∀ {k : Nat}, i ≤ k → k ≤ ops.size → (S i).length ≤ (S k).length := by
  intro k
  induction k with
  | zero => intro h _; have : i = 0 := by omega
            subst this; exact Nat.le_refl _
  | succ k ih =>
    intro h hk
    by_cases e : i = k + 1
    · subst e; exact Nat.le_refl _
    · exact Nat.le_trans (ih (by omega) (by omega)) (g.keep1 (Array.getElem?_eq_getElem (by omega)) (g.lo_le (by omega))).1.1

/-- A place that nobody writes between two times. -/
theorem Reg.agree (g : Reg P cfg call caller lo ops F S r tr) {i b : Nat} (hb : b < (S i).length) : ∀ {k : Nat}, i ≤ k → k ≤ ops.size →
    (∀ m o, i ≤ m → m < k → ops[m]? = some o → classA cfg caller o.op = 2 → isStore o.op = true ∧ tr.getD m none ≠ some b) → (S k)[b]? = (S i)[b]? := by
  intro k
  induction k with
  | zero => intro h _ _; have : i = 0 := by omega
            subst this; rfl
  | succ k ih =>
    intro h hk hw
    by_cases e : i = k + 1
    · subst e; rfl
    · have hi := ih (by omega) (by omega) (fun m o h1 h2 => hw m o h1 (by omega))
      rw [← hi]
      have ho : ops[k]? = some ops[k] := Array.getElem?_eq_getElem (by omega)
      by_cases c : classA cfg caller ops[k].op = 2
      · obtain ⟨hs, hne⟩ := hw k _ (by omega) (by omega) ho c
        obtain ⟨_, h1 | h1⟩ := g.steps k _ ho
        · obtain ⟨_, h1, h2⟩ := h1
          generalize ops[k].op = op at *
          cases op <;> simp only [isStore, Bool.false_eq_true] at hs
          simp only [opA, opPick, opAlloc, opBox, opBuild, opBuildSlice, op1, op2, opStore, opMkIface, opMakeFunc, opMakeSlice, opSlice, opExtract, sameA] at h1
          split at h1
          · rename_i p v hp hv
            simp only [Option.map_eq_some_iff, Prod.mk.injEq] at h1
            obtain ⟨σ', h1, _, rfl⟩ := h1
            refine (storeA_keeps h1).2 b ?_
            intro e'
            rw [h2] at hne
            simp only [lookA, hp] at hne
            exact hne e'
          · cases h1
        · rw [h1.2.2.1]
      · exact ((g.keep1 ho (g.lo_le (by omega))).2 c).2 b (Nat.lt_of_lt_of_le hb (g.len_le (by omega) (by omega)))

theorem firstOf_le : ∀ (l : List Oper), firstOf cfg caller l ≤ l.length
  | [] => Nat.le_refl _
  | o :: rest => by
    simp only [firstOf]
    split
    · simp
    · have := firstOf_le rest; simp; omega

theorem firstOf_lt : ∀ {l : List Oper} {i : Nat} {o : Oper}, l[i]? = some o → i < firstOf cfg caller l → classA cfg caller o.op ≠ 2
  | [], _, _, h, _ => by simp at h
  | o :: rest, 0, o', h, hi => by
    simp only [firstOf] at hi
    split at hi
    · omega
    · rename_i c; simp at h; subst h; exact c
  | o :: rest, i + 1, o', h, hi => by
    simp only [firstOf] at hi
    split at hi
    · omega
    · exact firstOf_lt (l := rest) (i := i) (by simpa using h) (by omega)

theorem firstOf_at : ∀ {l : List Oper} {o : Oper}, l[firstOf cfg caller l]? = some o → classA cfg caller o.op = 2
  | [], _, h => by simp at h
  | o :: rest, o', h => by
    simp only [firstOf] at h
    split at h
    · rename_i c; simp at h; subst h; exact c
    · exact firstOf_at (l := rest) (by simpa using h)

/-- The frame along the text. -/
theorem Reg.flen (g : Reg P cfg call caller lo ops F S r tr) : ∀ {j : Nat}, j ≤ ops.size → (F j).length = (F 0).length
  | 0, _ => rfl
  | j + 1, h => by
    rw [(g.steps j _ (Array.getElem?_eq_getElem (by omega))).1, ← g.flen (j := j) (by omega)]
    unfold putA; split <;> simp

theorem Reg.fold (g : Reg P cfg call caller lo ops F S r tr) {d : Nat} : ∀ {j : Nat}, j ≤ ops.size → (∀ i o, i < j → ops[i]? = some o → o.dst ≠ some d) → (F j)[d]? = (F 0)[d]?
  | 0, _, _ => rfl
  | j + 1, h, hn => by
    rw [← g.fold (j := j) (by omega) (fun i o hi => hn i o (by omega))]
    have ho : ops[j]? = some ops[j] := Array.getElem?_eq_getElem (by omega)
    rw [(g.steps j _ ho).1]
    have := hn j _ (by omega) ho
    unfold putA
    split
    · rename_i e; rw [List.getElem?_set_ne (fun e' => this (by rw [e, e']))]
    · rfl

theorem Reg.fnew (g : Reg P cfg call caller lo ops F S r tr) {d i : Nat} {o : Oper} (ho : ops[i]? = some o) (hd : o.dst = some d) : ∀ {j : Nat}, j ≤ ops.size → i < j → (F j)[d]? = some (r i) := by
  intro j
  induction j with
  | zero => intro _ h; omega
  | succ j ih =>
    intro hj hij
    have hoj : ops[j]? = some ops[j] := Array.getElem?_eq_getElem (by omega)
    rw [(g.steps j _ hoj).1]
    by_cases e : i = j
    · subst e
      rw [ho] at hoj; cases hoj
      simp only [putA, hd]
      rw [List.getElem?_set_self (by rw [g.flen (by omega)]; exact g.dsts i _ ho d hd)]
    · rw [← ih (by omega) (by omega)]
      have := (g.pair ho hoj (by omega)).1
      unfold putA
      split
      · rename_i e'
        rw [List.getElem?_set_ne]
        intro e2; subst e2
        rcases this with h | h
        · rw [hd] at h; cases h
        · exact h (by rw [hd, e'])
      · rfl
end
end Go.Abs

/- The state in the middle of a drawn region. -/
namespace Go.Abs
open Go.RowKit (Below)

variable {P : Program}

section
variable {cfg : Cfg} {call : Caller} {caller lo base : Nat} {ops : Array Oper} {F : Nat → List AV} {S : Nat → Sto} {r : Nat → AV} {tr : List (Option Nat)} {R0 : Ren} {w0 : World}

/-- What a temporary holds: what an operation that has come up gave it, or what it held at the beginning. -/
def Cur (ops : Array Oper) (F : Nat → List AV) (S : Nat → Sto) (r : Nat → AV) (R0 : Ren) (q : Nat) (L : Array Bool) (R : Ren) (d : Nat) (v : Value) : Prop :=
  (∃ j o, ops[j]? = some o ∧ L.getD j false = true ∧ o.dst = some d ∧ VRel R (r j) v ∧ (j < q → VRel (R.cut (S (j + 1)).length) (r j) v)) ∨
  ((∀ (j : Nat) o, ops[j]? = some o → o.dst = some d → L.getD j false = false) ∧ ∃ u, (F 0)[d]? = some u ∧ VRel R0 u v)

structure Mid (ops : Array Oper) (F : Nat → List AV) (S : Nat → Sto) (r : Nat → AV) (R0 : Ren) (w0 : World) (lo base q m : Nat) (L : Array Bool) (a : Act) (w : World) (R : Ren) : Prop where
  size : L.size = ops.size
  closed : Closed ops L
  step : Step R0 (S 0) w0 lo base R (S m) w
  tmps : ∀ (d : Nat) v, a.tmps[d]? = some v → Cur ops F S r R0 q L R d v
  asize : a.tmps.size = (F 0).length
  defers : a.defers = []

theorem getD_set {L : Array Bool} {i j : Nat} {d : Bool} (h : i < L.size) : (L.setIfInBounds i true).getD j d = if i = j then true else L.getD j d := by
  by_cases e : i = j
  · subst e; simp [h]
  · rw [if_neg e]; exact getD_set_ne d e

/-- One operation more. -/
theorem Mid.next {q q' m m' j : Nat} {L : Array Bool} {a : Act} {w w' : World} {R R' : Ren} {o : Oper} {v : Value} (g : Reg P cfg call caller lo ops F S r tr)
    (M : Mid ops F S r R0 w0 lo base q m L a w R) (ho : ops[j]? = some o) (hr : ∀ e ∈ o.after, Region.binds .any e = true → L.getD e.on false = true)
    (le : R.Le R') (hq : q' = 0 ∨ q' = q ∧ ∀ T, (R.cut T).Le (R'.cut T)) (st : Step R0 (S 0) w0 lo base R' (S m') w')
    (hv : VRel R' (r j) v) (hv' : j < q' → VRel (R'.cut (S (j + 1)).length) (r j) v) : Mid ops F S r R0 w0 lo base q' m' (L.setIfInBounds j true) (a.put o.dst v) w' R' := by
  have hj : j < L.size := by rw [M.size]; exact (Array.getElem?_eq_some_iff.1 ho).1
  have hmore : ∀ {i}, L.getD i false = true → (L.setIfInBounds j true).getD i false = true := fun h => getD_set_true h
  refine ⟨by simp [M.size], ?_, st, ?_, ?_, by rw [put_defers]; exact M.defers⟩
  · intro i o' hi hL e he hb
    rw [getD_set hj] at hL
    split at hL
    · rename_i e1; subst e1
      rw [ho] at hi; cases hi
      exact hmore (hr e he hb)
    · exact hmore (M.closed i o' hi hL e he hb)
  · intro d u hu
    by_cases hd : o.dst = some d
    · left
      refine ⟨j, o, ho, by rw [getD_set hj, if_pos rfl], hd, ?_⟩
      rw [hd] at hu
      simp only [Act.put] at hu
      have hdl : d < a.tmps.size := by rw [M.asize]; exact g.dsts j o ho d hd
      simp [hdl] at hu
      subst hu
      exact ⟨hv, hv'⟩
    · have hu' : a.tmps[d]? = some u := by
        cases e : o.dst with
        | none => rw [e] at hu; exact hu
        | some d' =>
          rw [e] at hu
          simp only [Act.put] at hu
          rw [Array.getElem?_setIfInBounds_ne (fun e' => hd (by rw [e, e']))] at hu
          exact hu
      rcases M.tmps d u hu' with ⟨i, o', hi, hL, hdi, h1, h2⟩ | ⟨h1, h2⟩
      · left
        refine ⟨i, o', hi, hmore hL, hdi, h1.mono le, fun hiq => ?_⟩
        rcases hq with rfl | ⟨rfl, hc⟩
        · omega
        · exact (h2 hiq).mono (hc _)
      · right
        refine ⟨fun i o' hi hdi => ?_, h2⟩
        rw [getD_set hj]
        split
        · rename_i e; subst e
          rw [ho] at hi; cases hi
          exact absurd hdi hd
        · exact h1 i o' hi hdi
  · rw [← M.asize]; cases o.dst <;> simp [Act.put]

/-- What an operation that may come up sees. -/
theorem Mid.sees {q m j : Nat} {L : Array Bool} {a : Act} {w : World} {R R' : Ren} {o : Oper} (g : Reg P cfg call caller lo ops F S r tr)
    (M : Mid ops F S r R0 w0 lo base q m L a w R) (ho : ops[j]? = some o) (hj : L.getD j false = false) (hr : ∀ e ∈ o.after, Region.binds .any e = true → L.getD e.on false = true)
    (h0 : R0.Le R') (hres : ∀ (i : Nat) o', i < j → ops[i]? = some o' → L.getD i false = true → ∀ v, VRel R (r i) v ∧ (i < q → VRel (R.cut (S (i + 1)).length) (r i) v) → VRel R' (r i) v) :
    ∀ d ∈ o.looksAt ops, ∀ x, (F j)[d]? = some x → ∃ v, a.tmps[d]? = some v ∧ VRel R' x v := by
  intro d hd x hx
  have hjn : j < ops.size := (Array.getElem?_eq_some_iff.1 ho).1
  have hdl : d < (F 0).length := by
    rw [← g.flen (j := j) (by omega)]; exact (List.getElem?_eq_some_iff.1 hx).1
  obtain ⟨v, hv⟩ : ∃ v, a.tmps[d]? = some v := ⟨_, Array.getElem?_eq_getElem (by rw [M.asize]; exact hdl)⟩
  refine ⟨v, hv, ?_⟩
  -- who wrote it
  have later : ∀ (i : Nat) o', ops[i]? = some o' → o'.dst = some d → L.getD i false = true → i < j := by
    intro i o' hi hdi hL
    rcases Nat.lt_trichotomy i j with h | h | h
    · exact h
    · subst h; rw [hj] at hL; cases hL
    · exfalso
      rcases (g.pair ho hi h).2 with hb | hb
      · have := before_in M.closed hi (fun e he hb => M.closed i o' hi hL e he hb) hb
        rw [hj] at this; cases this
      · unfold besideA at hb
        simp only [Bool.and_eq_true] at hb
        exact (Oper.apart_spec hb.1).2.2 d hdi hd
  by_cases hex : ∃ i o', i < j ∧ ops[i]? = some o' ∧ o'.dst = some d
  · obtain ⟨i, o', hij, hi, hdi⟩ := hex
    have hLi : L.getD i false = true := by
      rcases (g.pair hi ho hij).2 with hb | hb
      · exact before_in M.closed ho hr hb
      · unfold besideA at hb
        simp only [Bool.and_eq_true] at hb
        exact absurd hd ((Oper.apart_spec hb.1).1 d hdi)
    rw [g.fnew hi hdi (by omega) hij] at hx
    cases hx
    rcases M.tmps d v hv with ⟨i', o'', hi', hL', hdi', h1⟩ | ⟨h1, _⟩
    · have : i' = i := by
        rcases Nat.lt_trichotomy i' i with h | h | h
        · rcases (g.pair hi' hi h).1 with h | h
          · rw [hdi'] at h; cases h
          · exact absurd (by rw [hdi', hdi]) h
        · exact h
        · rcases (g.pair hi hi' h).1 with h | h
          · rw [hdi] at h; cases h
          · exact absurd (by rw [hdi', hdi]) h
      subst this
      exact hres i' o' hij hi hLi v h1
    · rw [h1 i o' hi hdi] at hLi; cases hLi
  · have hx' : (F 0)[d]? = some x := by
      rw [← g.fold (j := j) (by omega) (fun i o' hij hi hdi => hex ⟨i, o', hij, hi, hdi⟩)]; exact hx
    rcases M.tmps d v hv with ⟨i', o'', hi', hL', hdi', h1⟩ | ⟨_, u, hu, hr⟩
    · exact absurd ⟨i', o'', later i' o'' hi' hdi' hL', hi', hdi'⟩ hex
    · rw [hx'] at hu; cases hu
      exact hr.mono h0

theorem sees_ev {j : Nat} {a : Act} {R' : Ren} {o : Oper} (hG : GlobOk cfg R') (hl : a.tmps.size = (F j).length) (h : ∀ d ∈ o.looksAt ops, ∀ x, (F j)[d]? = some x → ∃ v, a.tmps[d]? = some v ∧ VRel R' x v) :
    EvOk cfg R' (F j) a o.op.operands.toList ∧ ∀ b, wantedA ops (F j) o = some b → Region.wanted o (yielded ops a.tmps) = b := by
  constructor
  · intro x hx v he
    cases x with
    | tmp t =>
      simp only [evA, Option.some.injEq] at he
      subst he
      have hm : t ∈ o.looksAt ops := List.mem_append_left _ (List.mem_filterMap.2 ⟨.tmp t, hx, rfl⟩)
      cases e : (F j)[t]? with
      | none =>
        have h1 : (F j).length ≤ t := List.getElem?_eq_none_iff.1 e
        have h2 : a.tmps[t]? = none := Array.getElem?_eq_none (by omega)
        simp only [List.getD_eq_getElem?_getD, e, Option.getD_none, Act.eval, Array.getD_eq_getD_getElem?, h2, undefA, undef]
        exact .tuple .nil
      | some x =>
        obtain ⟨v, hv, hr⟩ := h t hm x e
        simp only [List.getD_eq_getElem?_getD, e, Option.getD_some, Act.eval, Array.getD_eq_getD_getElem?, hv]
        exact hr
    | const c => simp [evA] at he; exact absC_rel he
    | global g =>
      simp only [evA, Option.map_eq_some_iff] at he
      obtain ⟨cs, hc, rfl⟩ := he
      have := VRel.ro (R := R') 0 (hG g cs hc).1
      exact this
    | func f => simp [evA] at he; subst he; exact .func _ .nil .nil
  · intro b hb
    refine wanted_rel hl.symm (fun g want d hg hd x hx => ?_) hb
    obtain ⟨v, hv, hr⟩ := h d (List.mem_append_right _ (by simp [hg, hd])) x hx
    exact ⟨v, hv, R', hr⟩
end
end Go.Abs
