/-
  The interpreter over pure values is sound: what it computes, every call of the model does. No condition but those that each theorem names.
-/
import Derived.Test.YteaepjamgkgngaaGreatDoorL2
import Derived.Test.YteaepjamgkgngaaGreatDoorL1
import Derived.LoopN
import Derived.Scope
import Derived.Laws.Sem
import GoSem.ClaimChange
import Derived.DataReads
import Derived.Carry
import Derived.ProofKit
import Derived.OpenShut
import Derived.ChangeSame
import GoSem.ClaimJoined
set_option linter.unusedSimpArgs false
set_option linter.unusedVariables false

/- Whatever order is drawn. -/
namespace Go.Abs
open Go.RowKit (Below)

variable {P : Program}

section
variable {cfg : Cfg} {call : Caller} {caller lo base : Nat} {ops : Array Oper} {F : Nat → List AV} {S : Nat → Sto} {r : Nat → AV} {tr : List (Option Nat)} {R0 : Ren} {w0 : World}

structure Quiet (cfg : Cfg) (caller : Nat) (ops : Array Oper) (F : Nat → List AV) (S : Nat → Sto) (r : Nat → AV) (R0 : Ren) (w0 : World) (lo base : Nat) (L : Array Bool) (a : Act) (w : World) (R : Ren) : Prop where
  mid : Mid ops F S r R0 w0 lo base (firstOf cfg caller ops.toList) (firstOf cfg caller ops.toList) L a w R
  fam : ∀ k ≤ firstOf cfg caller ops.toList, Inv (R.cut (S k).length) (S k) w (S k).length w.heap.size
  notyet : ∀ (j : Nat) o, ops[j]? = some o → L.getD j false = true → classA cfg caller o.op = 0 ∨ j < firstOf cfg caller ops.toList
  free : ∀ j < firstOf cfg caller ops.toList, L.getD j false = false → ∀ b, (S j).length ≤ b → b < (S (j + 1)).length → R.box b = none ∧ R.rows b = none

structure Chain (cfg : Cfg) (caller : Nat) (ops : Array Oper) (F : Nat → List AV) (S : Nat → Sto) (r : Nat → AV) (R0 : Ren) (w0 : World) (lo base m : Nat) (L : Array Bool) (a : Act) (w : World) (R : Ren) : Prop where
  mid : Mid ops F S r R0 w0 lo base 0 m L a w R
  bound : firstOf cfg caller ops.toList ≤ m ∧ m ≤ ops.size
  done : ∀ (j : Nat) o, ops[j]? = some o → classA cfg caller o.op ≠ 0 → (L.getD j false = true ↔ j < m)

theorem cut_le_size : firstOf cfg caller ops.toList ≤ ops.size := by have := firstOf_le (cfg := cfg) (caller := caller) ops.toList; simpa using this

/-- Behind the quiet ones: nothing of the first class has come up, and all before the cut have. -/
theorem Quiet.chain {L : Array Bool} {a : Act} {w : World} {R : Ren} (h : Quiet cfg caller ops F S r R0 w0 lo base L a w R)
    (hall : ∀ (i : Nat) o, i < firstOf cfg caller ops.toList → ops[i]? = some o → classA cfg caller o.op ≠ 0 → L.getD i false = true) : Chain cfg caller ops F S r R0 w0 lo base (firstOf cfg caller ops.toList) L a w R := by
  refine ⟨⟨h.mid.size, h.mid.closed, h.mid.step, fun d v hv => ?_, h.mid.asize, h.mid.defers⟩, ⟨Nat.le_refl _, cut_le_size⟩, fun j o ho hc => ⟨fun hL => ?_, fun hj => hall j o hj ho hc⟩⟩
  · rcases h.mid.tmps d v hv with ⟨j, o, h1, h2, h3, h4, _⟩ | h
    · exact .inl ⟨j, o, h1, h2, h3, h4, fun hh => by omega⟩
    · exact .inr h
  · rcases h.notyet j o ho hL with h | h
    · exact absurd h hc
    · exact h

theorem Reg.keepQ (g : Reg P cfg call caller lo ops F S r tr) {i k : Nat} (h : i ≤ k) (hk : k ≤ firstOf cfg caller ops.toList) {b : Nat} (hb : b < (S i).length) : (S k)[b]? = (S i)[b]? :=
  g.agree hb h (Nat.le_trans hk cut_le_size) (fun m o _ h2 ho hc => absurd hc (firstOf_lt (l := ops.toList) (i := m) (by simpa using ho) (by omega)))

theorem Reg.dom (_g : Reg P cfg call caller lo ops F S r tr) (I : Inv R0 (S 0) w0 lo base) {T : Nat} (h : (S 0).length ≤ T) : ∀ b, T ≤ b → R0.box b = none ∧ R0.rows b = none := fun b hb => I.dom b (by omega)

/-- A quiet operation before the cut. -/
theorem Quiet.next {j : Nat} {L : Array Bool} {a : Act} {w w' : World} {R R1 : Ren} {o : Oper} {v : Value} (g : Reg P cfg call caller lo ops F S r tr) (hb : base ≤ w0.heap.size)
    (h : Quiet cfg caller ops F S r R0 w0 lo base L a w R) (ho : ops[j]? = some o) (hL : L.getD j false = false) (hr : ∀ e ∈ o.after, Region.binds .any e = true → L.getD e.on false = true) (hj : j < firstOf cfg caller ops.toList)
    (st : Step (R.cut (S j).length) (S j) w (S j).length w.heap.size R1 (S (j + 1)) w') (hv : VRel R1 (r j) v) :
    Quiet cfg caller ops F S r R0 w0 lo base (L.setIfInBounds j true) (a.put o.dst v) w' (R.join (S (j + 1)).length R1) := by
  have hn := cut_le_size (cfg := cfg) (caller := caller) (ops := ops)
  have hjs : j < L.size := by rw [h.mid.size]; omega
  have l : Lift R w (S j) R1 (S (j + 1)) w' := ⟨st, h.free j hj hL⟩
  have hbw : base ≤ w.heap.size := Nat.le_trans hb h.mid.step.below.size
  have agr : ∀ k, j + 1 ≤ k → k ≤ firstOf cfg caller ops.toList → (S (j + 1)).length ≤ (S k).length ∧ ∀ b, (S j).length ≤ b → b < (S (j + 1)).length → (S k)[b]? = (S (j + 1))[b]? := fun k h1 h2 =>
    ⟨g.len_le h1 (by omega), fun b _ hb => g.keepQ h1 h2 hb⟩
  have hst' := l.on (τ := S (firstOf cfg caller ops.toList)) h.mid.step hbw (g.len_le (by omega) (by omega)) (.inr (agr _ hj (Nat.le_refl _)))
  refine ⟨h.mid.next g ho hr l.le (.inr ⟨rfl, fun T => l.le_cut T⟩) hst' ?_ (fun _ => hv.mono (l.own_le (Nat.le_refl _))), ?_, ?_, ?_⟩
  · have := hv.mono (l.own_le (T := (S (j + 1)).length) (Nat.le_refl _))
    exact this.mono (Ren.cut_le _ _)
  · intro k hk
    have I := h.fam k hk
    have hsz := st.below.size
    have I' : Inv (R.cut (S k).length) (S k) w (S k).length 0 := ⟨I.im, I.dom, I.kindB, I.kindR, I.box, I.rows, I.apart, fun _ _ _ _ => Nat.zero_le _, I.openB, I.openR⟩
    have I2 := l.inv (τ := S k) (lo0 := (S k).length) (base0 := 0) I' (Nat.zero_le _) (by
      rcases Nat.lt_or_ge j k with hlt | hge
      · exact .inr (agr k hlt hk)
      · exact .inl (g.len_le hge (by omega)))
    exact I2.shut
  · intro i o' hi hLi
    rw [getD_set hjs] at hLi
    split at hLi
    · rename_i e; subst e; exact .inr hj
    · exact h.notyet i o' hi hLi
  · intro i hi hLi b h1 h2
    rw [getD_set hjs] at hLi
    split at hLi
    · cases hLi
    · rename_i e
      have hold : ¬ ((S j).length ≤ b ∧ b < (S (j + 1)).length) := by
        intro hh
        rcases Nat.lt_or_ge i j with hlt | hge
        · have := g.len_le (i := i + 1) (k := j) (by omega) (by omega); omega
        · have := g.len_le (i := j + 1) (k := i) (by omega) (by omega); omega
      rw [l.box_old hold, l.rows_old hold]
      exact h.free i hi hLi b h1 h2

/-- A look, while the quiet ones come up. -/
theorem Quiet.look {j : Nat} {L : Array Bool} {a : Act} {w w' : World} {R R1 : Ren} {o : Oper} {v : Value} (g : Reg P cfg call caller lo ops F S r tr) (hb : base ≤ w0.heap.size)
    (h : Quiet cfg caller ops F S r R0 w0 lo base L a w R) (ho : ops[j]? = some o) (hr : ∀ e ∈ o.after, Region.binds .any e = true → L.getD e.on false = true) (hj : firstOf cfg caller ops.toList ≤ j) (hc : classA cfg caller o.op = 0)
    (st : Step (R.cut (S (firstOf cfg caller ops.toList)).length) (S (firstOf cfg caller ops.toList)) w (S (firstOf cfg caller ops.toList)).length w.heap.size R1 (S (firstOf cfg caller ops.toList)) w') (hv : VRel R1 (r j) v) :
    Quiet cfg caller ops F S r R0 w0 lo base (L.setIfInBounds j true) (a.put o.dst v) w' (R.join (S (firstOf cfg caller ops.toList)).length R1) := by
  have hn := cut_le_size (cfg := cfg) (caller := caller) (ops := ops)
  have hjs : j < L.size := by rw [h.mid.size]; exact (Array.getElem?_eq_some_iff.1 ho).1
  generalize hcut : firstOf cfg caller ops.toList = cut at *
  have l : Lift R w (S cut) R1 (S cut) w' := ⟨st, fun b h1 h2 => by omega⟩
  have hbw : base ≤ w.heap.size := Nat.le_trans hb h.mid.step.below.size
  have hmid := h.mid
  rw [hcut] at hmid
  have hst' := l.on (τ := S cut) hmid.step hbw (g.len_le (by omega) (by omega)) (.inl ⟨Nat.le_refl _, Nat.le_refl _⟩)
  refine ⟨by rw [hcut]; exact hmid.next g ho hr l.le (.inr ⟨rfl, fun T => l.le_cut T⟩) hst' ((hv.mono (l.own_le (T := (S cut).length) (Nat.le_refl _))).mono (Ren.cut_le _ _)) (fun hh => by omega), ?_, ?_, ?_⟩
  · intro k hk
    have I := h.fam k hk
    rw [hcut] at hk
    have I' : Inv (R.cut (S k).length) (S k) w (S k).length 0 := ⟨I.im, I.dom, I.kindB, I.kindR, I.box, I.rows, I.apart, fun _ _ _ _ => Nat.zero_le _, I.openB, I.openR⟩
    have I2 := l.inv (τ := S k) (lo0 := (S k).length) (base0 := 0) I' (Nat.zero_le _) (.inl (g.len_le hk (by omega)))
    exact I2.shut
  · intro i o' hi hLi
    rw [getD_set hjs] at hLi
    split at hLi
    · rename_i e; subst e
      rw [ho] at hi; cases hi
      exact .inl hc
    · exact h.notyet i o' hi hLi
  · intro i hi hLi b h1 h2
    rw [getD_set hjs] at hLi
    split at hLi
    · cases hLi
    · rw [l.box_old (by omega), l.rows_old (by omega)]
      exact h.free i hi hLi b h1 h2

/-- A look, while the others come up one behind the other. -/
theorem Chain.look {j m : Nat} {L : Array Bool} {a : Act} {w w' : World} {R R1 : Ren} {o : Oper} {v : Value} (g : Reg P cfg call caller lo ops F S r tr) (hb : base ≤ w0.heap.size)
    (h : Chain cfg caller ops F S r R0 w0 lo base m L a w R) (ho : ops[j]? = some o) (hr : ∀ e ∈ o.after, Region.binds .any e = true → L.getD e.on false = true) (hc : classA cfg caller o.op = 0)
    (st : Step (R.cut (S m).length) (S m) w (S m).length w.heap.size R1 (S m) w') (hv : VRel R1 (r j) v) :
    Chain cfg caller ops F S r R0 w0 lo base m (L.setIfInBounds j true) (a.put o.dst v) w' (R.join (S m).length R1) := by
  have hjs : j < L.size := by rw [h.mid.size]; exact (Array.getElem?_eq_some_iff.1 ho).1
  have l : Lift R w (S m) R1 (S m) w' := ⟨st, fun b h1 h2 => by omega⟩
  have hbw : base ≤ w.heap.size := Nat.le_trans hb h.mid.step.below.size
  have hst' := l.on (τ := S m) h.mid.step hbw (g.len_le (by omega) h.bound.2) (.inl ⟨Nat.le_refl _, Nat.le_refl _⟩)
  refine ⟨h.mid.next g ho hr l.le (.inl rfl) hst' ((hv.mono (l.own_le (T := (S m).length) (Nat.le_refl _))).mono (Ren.cut_le _ _)) (fun hh => by omega), h.bound, ?_⟩
  intro i o' hi hci
  rw [getD_set hjs]
  split
  · rename_i e; subst e
    rw [ho] at hi; cases hi
    exact absurd hc hci
  · exact h.done i o' hi hci

/-- One of the others. -/
theorem Chain.next {j m : Nat} {L : Array Bool} {a : Act} {w w' : World} {R R1 : Ren} {o : Oper} {v : Value} (g : Reg P cfg call caller lo ops F S r tr)
    (h : Chain cfg caller ops F S r R0 w0 lo base m L a w R) (ho : ops[j]? = some o) (hL : L.getD j false = false) (hr : ∀ e ∈ o.after, Region.binds .any e = true → L.getD e.on false = true) (hc : classA cfg caller o.op ≠ 0)
    (hbet : ∀ (i : Nat) o', m ≤ i → i < j → ops[i]? = some o' → classA cfg caller o'.op = 0)
    (st : Step R (S m) w lo base R1 (S (j + 1)) w') (hv : VRel R1 (r j) v) :
    Chain cfg caller ops F S r R0 w0 lo base (j + 1) (L.setIfInBounds j true) (a.put o.dst v) w' R1 := by
  have hjn : j < ops.size := (Array.getElem?_eq_some_iff.1 ho).1
  have hjs : j < L.size := by rw [h.mid.size]; exact hjn
  have hmj : m ≤ j := by
    rcases Nat.lt_or_ge j m with hlt | hge
    · rw [(h.done j o ho hc).2 hlt] at hL; cases hL
    · exact hge
  refine ⟨h.mid.next g ho hr st.le (.inl rfl) (h.mid.step.trans st) hv (fun hh => by omega), ⟨by have := h.bound.1; omega, by omega⟩, ?_⟩
  intro i o' hi hci
  rw [getD_set hjs]
  split
  · rename_i e; subst e; exact ⟨fun _ => by omega, fun _ => rfl⟩
  · rename_i e
    rw [h.done i o' hi hci]
    constructor
    · intro hh; omega
    · intro hh
      rcases Nat.lt_or_ge i m with hlt | hge
      · exact hlt
      · exact absurd (hbet i o' hge (by omega) hi) hci
end
end Go.Abs

/- A drawn region. -/
namespace Go.Abs
open Go.RowKit (Below)

variable {P : Program}

section
variable {cfg : Cfg} {call : Caller} {caller lo base : Nat} {ops : Array Oper} {F : Nat → List AV} {S : Nat → Sto} {r : Nat → AV} {tr : List (Option Nat)} {R0 : Ren} {w0 : World}

theorem VRel.placed {R : Ren} {x : AV} {v : Value} {b : Nat} (h : VRel R x v) (hb : blkP (some x) = some b ∨ blkS (some x) = some b) : R.box b ≠ none ∨ R.rows b ≠ none := by
  cases h <;> simp [blkP, blkS] at hb
  case ptr e => subst hb; left; simp [e]
  case eptr e => subst hb; right; simp [e]
  case eptrOld e _ => subst hb; right; simp [e]
  case sl e _ _ => subst hb; right; simp [e]
  case slOld e _ => subst hb; right; simp [e]

theorem look_operand {fr : List AV} {o : Op} {b : Nat} (h0 : classA cfg caller o = 0) (h : lookA cfg fr o = some b) : ∃ x ∈ o.operands.toList, ∃ v, evA cfg fr x = some v ∧ (blkP (some v) = some b ∨ blkS (some v) = some b) := by
  cases o <;> simp only [lookA] at h <;> try (cases h; done)
  case load t a =>
    cases e : evA cfg fr a with
    | none => rw [e] at h; cases h
    | some v => exact ⟨a, by simp [Op.operands], v, e, .inl (by rw [e] at h; exact h)⟩
  case store => simp [classA] at h0
  case slice t x l hh m =>
    cases e : evA cfg fr x with
    | none => rw [e] at h; cases h
    | some v => exact ⟨x, by simp [Op.operands], v, e, .inr (by rw [e] at h; exact h)⟩
  case indexAddr t x i =>
    cases e : evA cfg fr x with
    | none => rw [e] at h; cases h
    | some v => exact ⟨x, by simp [Op.operands], v, e, .inr (by rw [e] at h; exact h)⟩

/-- What is looked at is there. -/
theorem look_lt {fr : List AV} {o : Op} {b lo' : Nat} {σ σ' : Sto} {r : AV} (h0 : classA cfg caller o = 0) (h : lookA cfg fr o = some b) (hop : opA P cfg call caller lo' fr σ o = some (r, σ')) : b < σ.length := by
  apply Decidable.byContradiction
  intro hn
  have hnone : σ[b]? = none := List.getElem?_eq_none (by omega)
  cases o <;> simp only [lookA] at h <;> try (cases h; done)
  case load t a =>
    simp only [opA, opPick, opAlloc, opBox, opBuild, opBuildSlice, op1, op2, opStore, opMkIface, opMakeFunc, opMakeSlice, opSlice, opExtract, sameA] at hop
    cases e : evA cfg fr a with
    | none => rw [e] at h; cases h
    | some v =>
      rw [e] at h hop
      simp only [Option.map_eq_some_iff] at hop
      obtain ⟨u, hu, _⟩ := hop
      cases v <;> simp only [blkP, Option.some.injEq] at h <;> first | cases h; done | skip
      all_goals (subst h; simp [loadA, placeA, hnone] at hu)
  case store => simp [classA] at h0
  case slice t x l hh m =>
    simp only [opA, opPick, opAlloc, opBox, opBuild, opBuildSlice, op1, op2, opStore, opMkIface, opMakeFunc, opMakeSlice, opSlice, opExtract, sameA] at hop
    split at hop
    · rename_i v l' h' m' hx hl hh hm
      rw [hx] at h
      simp only [Option.map_eq_some_iff] at hop
      obtain ⟨u, hu, _⟩ := hop
      cases v <;> simp only [blkS, Option.some.injEq] at h <;> first | cases h; done | skip
      all_goals (
        subst h
        cases hd : P.underlying t with
        | none => simp [sliceA, hd] at hu
        | some d => cases d <;> simp [sliceA, hd, hnone] at hu)
    · cases hop
  case indexAddr t x i =>
    simp only [opA, opPick, opAlloc, opBox, opBuild, opBuildSlice, op1, op2, opStore, opMkIface, opMakeFunc, opMakeSlice, opSlice, opExtract, sameA] at hop
    split at hop
    · rename_i v ix hx hi
      rw [hx] at h
      simp only [Option.map_eq_some_iff] at hop
      obtain ⟨u, hu, _⟩ := hop
      cases v <;> simp only [blkS, Option.some.injEq] at h <;> first | cases h; done | skip
      all_goals (
        subst h
        simp only [indexAddrA] at hu
        repeat' split at hu
        all_goals first
          | (cases hu; done)
          | (simp_all; done)
          | (rename_i elem _ _; cases hs : szOf P elem <;> simp [hs, moveA] at hu))
    · cases hop

/-- What a look sees at another time. -/
theorem Reg.other (g : Reg P cfg call caller lo ops F S r tr) {j m b : Nat} {o : Oper} (ho : ops[j]? = some o) (hc : classA cfg caller o.op = 0) (hm : m ≤ ops.size) {L : Array Bool} (hL : L.getD j false = false) (hcl : Closed ops L)
    (hr : ∀ e ∈ o.after, Region.binds .any e = true → L.getD e.on false = true)
    (hbefore : ∀ (i : Nat) o', i < m → ops[i]? = some o' → classA cfg caller o'.op = 2 → L.getD i false = true)
    (hafter : ∀ (i : Nat) o', m ≤ i → ops[i]? = some o' → classA cfg caller o'.op = 2 → L.getD i false = false)
    (ht : tr.getD j none = some b) (hl : mayLook o.op = true) (hbm : b < (S m).length) (hbj : b < (S j).length) : (S m)[b]? = (S j)[b]? := by
  have hjn : j < ops.size := (Array.getElem?_eq_some_iff.1 ho).1
  rcases Nat.le_total m j with h | h
  · refine (g.agree hbm h (by omega) (fun i o' h1 h2 hi hci => ?_)).symm
    have hn : ((masks ops.toList []).getD j 0).testBit i = false := by
      cases e : ((masks ops.toList []).getD j 0).testBit i with
      | false => rfl
      | true =>
        have := before_in hcl ho hr e
        rw [hafter i o' h1 hi hci] at this; cases this
    exact (g.apart hi ho h2 hn).2 hl hci b ht
  · refine g.agree hbj h hm (fun i o' h1 h2 hi hci => ?_)
    have hij : j ≠ i := by
      intro e; subst e
      rw [ho] at hi; cases hi
      rw [hc] at hci; cases hci
    have hLi := hbefore i o' h2 hi hci
    have hn : ((masks ops.toList []).getD i 0).testBit j = false := by
      cases e : ((masks ops.toList []).getD i 0).testBit j with
      | false => rfl
      | true =>
        have := before_in hcl hi (fun e he hb => hcl i o' hi hLi e he hb) e
        rw [hL] at this; cases this
    exact (g.apart ho hi (by omega) hn).1 hl hci b ht

/-- All that comes of one operation, wherever it stands. -/
theorem all_listed {L : Array Bool} (hs : L.size = ops.size) (g : Reg P cfg call caller lo ops F S r tr) (h : Region.ready .any ops L = []) : ∀ {j : Nat}, j < ops.size → L.getD j false = true := by
  intro j
  induction j using Nat.strongRecOn with
  | ind j ih =>
    intro hj
    apply Decidable.byContradiction
    intro hn
    have ho : ops[j]? = some ops[j] := Array.getElem?_eq_getElem hj
    have hm : j ∈ Region.ready .any ops L := by
      rw [mem_ready]
      refine ⟨?_, _, ho, fun e he hb => ih e.on (g.edges ho e he hb) (by have := g.edges ho e he hb; omega)⟩
      have hjl : j < L.size := by omega
      simp [hjl] at hn ⊢
      exact hn
    rw [h] at hm; cases hm

theorem cnt_set {L : Array Bool} {j : Nat} (hj : j < L.size) (h : L.getD j true = false) : (L.setIfInBounds j true).toList.count false < L.toList.count false := by
  have he : L[j] = false := by simpa [hj] using h
  rw [Array.toList_setIfInBounds, List.count_set (by simpa using hj)]
  have h1 : L.toList[j]'(by simpa using hj) = false := by simpa using he
  have h2 : 0 < L.toList.count false := by rw [List.count_pos_iff]; rw [← h1]; exact List.getElem_mem _
  have e : (L.toList[j]'(by simpa using hj) == false) = true := by rw [h1]; rfl
  rw [if_pos e, if_neg (by decide : ¬ ((true == false) = true))]
  omega

variable {Q : Exit → Act → World → Prop}

theorem any_ok (hcfg : CfgOk P cfg) (hcall : CallOk P cfg call) (hbody : BodyOk P call) (g : Reg P cfg call caller lo ops F S r tr) (I0 : Inv R0 (S 0) w0 lo base) (hb : base ≤ w0.heap.size) (hg : GlobOk cfg R0)
    (hQ : ∀ a' w' R', Step R0 (S 0) w0 lo base R' (S ops.size) w' → VRels R' (F ops.size) a'.tmps.toList → a'.defers = [] → a'.tmps.size = (F 0).length → Q .normal a' w') :
    ∀ (fuel : Nat) (L : Array Bool) (a : Act) (w : World) (R : Ren), L.toList.count false ≤ fuel → (Quiet cfg caller ops F S r R0 w0 lo base L a w R ∨ ∃ m, Chain cfg caller ops F S r R0 w0 lo base m L a w R) → wpAny P .any ops Q fuel L a w := by
  have hn := cut_le_size (cfg := cfg) (caller := caller) (ops := ops)
  -- at the end
  have fin : ∀ (L : Array Bool) (a : Act) (w : World) (R : Ren), (Quiet cfg caller ops F S r R0 w0 lo base L a w R ∨ ∃ m, Chain cfg caller ops F S r R0 w0 lo base m L a w R) → Region.ready .any ops L = [] → Q .normal a w := by
    intro L a w R hst hre
    have key : ∀ m, Chain cfg caller ops F S r R0 w0 lo base m L a w R → Q .normal a w := by
      intro m h
      have hall := fun j (hj : j < ops.size) => all_listed h.mid.size g hre hj
      have hS : ∀ k, m ≤ k → k ≤ ops.size → S k = S m := by
        intro k
        induction k with
        | zero => intro h1 _; have : m = 0 := by omega
                  subst this; rfl
        | succ k ih =>
          intro h1 h2
          by_cases e : m = k + 1
          · subst e; rfl
          · rw [← ih (by omega) (by omega)]
            have ho : ops[k]? = some ops[k] := Array.getElem?_eq_getElem (by omega)
            have hc : classA cfg caller ops[k].op = 0 := by
              apply Decidable.byContradiction
              intro hc
              have := (h.done k _ ho hc).1 (hall k (by omega))
              omega
            obtain ⟨_, h3 | h3⟩ := g.steps k _ ho
            · exact (look_same (σ' := S k) hc h3.2.1 (fun _ _ => rfl)).1
            · exact h3.2.2.1
      have hst := h.mid.step
      rw [← hS ops.size h.bound.2 (Nat.le_refl _)] at hst
      refine hQ a w R hst (VRels.of_get (by rw [g.flen (Nat.le_refl _)]; simp [h.mid.asize]) fun d x v hx hv => ?_) h.mid.defers h.mid.asize
      have hv' : a.tmps[d]? = some v := by simpa using hv
      rcases h.mid.tmps d v hv' with ⟨j, o, h1, h2, h3, h4, _⟩ | ⟨h1, u, hu, hr⟩
      · have hjn : j < ops.size := (Array.getElem?_eq_some_iff.1 h1).1
        rw [g.fnew h1 h3 (Nat.le_refl _) hjn] at hx
        cases hx; exact h4
      · rw [g.fold (Nat.le_refl _) (fun i o hi ho hd => by have := h1 i o ho hd; rw [hall i hi] at this; cases this), hu] at hx
        cases hx; exact hr.mono h.mid.step.le
    rcases hst with h | ⟨m, h⟩
    · exact key _ (h.chain fun i o hi ho _ => all_listed h.mid.size g hre (by omega))
    · exact key m h
  intro fuel
  induction fuel with
  | zero =>
    intro L a w R hc hst
    have hsz : L.size = ops.size := by rcases hst with h | ⟨m, h⟩ <;> exact h.mid.size
    have hre : Region.ready .any ops L = [] := by
      rw [List.eq_nil_iff_forall_not_mem]
      intro j hj
      obtain ⟨h1, o, ho, _⟩ := mem_ready.1 hj
      have hjl : j < L.size := by rw [hsz]; exact (Array.getElem?_eq_some_iff.1 ho).1
      have := cnt_set hjl h1
      omega
    exact ⟨hre, fin L a w R hst hre⟩
  | succ fuel ih =>
    intro L a w R hc hst
    refine ⟨fin L a w R hst, fun j hj => ?_⟩
    obtain ⟨h1, o, ho, hr⟩ := mem_ready.1 hj
    have hjn : j < ops.size := (Array.getElem?_eq_some_iff.1 ho).1
    have hsz : L.size = ops.size := by rcases hst with h | ⟨m, h⟩ <;> exact h.mid.size
    have hjl : j < L.size := by omega
    have hL : L.getD j false = false := by simpa [hjl] using h1
    have hcnt : (L.setIfInBounds j true).toList.count false ≤ fuel := by have := cnt_set hjl h1; omega
    unfold wpOp
    simp only [ho]
    -- what remains: from what the operation does to the state behind it
    have close : ∀ (R' : Ren) (σa σb : Sto) (lo' base' : Nat), EvOk cfg R' (F j) a o.op.operands.toList → (∀ b, wantedA ops (F j) o = some b → Region.wanted o (yielded ops a.tmps) = b) → Inv R' σa w lo' base' → base' ≤ w.heap.size → lo' ≤ σa.length → GlobOk cfg R' →
        (wantedA ops (F j) o = some true ∧ opA P cfg call caller lo' (F j) σa o.op = some (r j, σb) ∨ wantedA ops (F j) o = some false ∧ r j = undefA ∧ σb = σa) →
        (∀ v w' R1, Step R' σa w lo' base' R1 σb w' → VRel R1 (r j) v → ∃ R2, (Quiet cfg caller ops F S r R0 w0 lo base (L.setIfInBounds j true) (a.put o.dst v) w' R2 ∨ ∃ m, Chain cfg caller ops F S r R0 w0 lo base m (L.setIfInBounds j true) (a.put o.dst v) w' R2)) →
        (if Region.wanted o (yielded ops a.tmps) = true then o.wp P a w (wpAny P .any ops Q fuel (L.setIfInBounds j true)) Q ∨ (o.asks P a w ∧ LetsOut Q) else wpAny P .any ops Q fuel (L.setIfInBounds j true) (a.put o.dst undef) w) := by
      intro R' σa σb lo' base' hev hwr I hb' hlo' hg' hop k
      rcases hop with ⟨hw, hop⟩ | ⟨hw, hru, rfl⟩
      · rw [if_pos (hwr _ hw)]
        refine .inl (op_ok hcfg hcall hbody hop I hb' hlo' hg' hev _ _ fun v w' R1 hs hrel => ?_)
        obtain ⟨R2, hst2⟩ := k v w' R1 hs hrel
        exact ih _ _ _ R2 hcnt hst2
      · rw [if_neg (by rw [hwr _ hw]; simp)]
        obtain ⟨R2, hst2⟩ := k undef w R' (.refl I) (by rw [hru]; exact .tuple .nil)
        exact ih _ _ _ R2 hcnt hst2
    -- the chain
    have goChain : ∀ m, Chain cfg caller ops F S r R0 w0 lo base m L a w R → (if Region.wanted o (yielded ops a.tmps) = true then o.wp P a w (wpAny P .any ops Q fuel (L.setIfInBounds j true)) Q ∨ (o.asks P a w ∧ LetsOut Q) else wpAny P .any ops Q fuel (L.setIfInBounds j true) (a.put o.dst undef) w) := by
      intro m h
      have hgR : GlobOk cfg R := hg.mono h.mid.step.le
      have hsees := h.mid.sees g ho hL hr h.mid.step.le (fun i o' _ _ _ v hv => hv.1)
      obtain ⟨hev, hwr⟩ := sees_ev hgR (by rw [h.mid.asize]; exact (g.flen (by omega)).symm) hsees
      have Im := h.mid.step.inv
      have hbw : base ≤ w.heap.size := Nat.le_trans hb h.mid.step.below.size
      have hid : R.cut (S m).length = R := Ren.cut_id Im.dom
      obtain ⟨_, hstep⟩ := g.steps j o ho
      by_cases hc0 : classA cfg caller o.op = 0
      · refine close R (S m) (S m) (S m).length w.heap.size hev hwr Im.shut (Nat.le_refl _) (Nat.le_refl _) hgR ?_ fun v w' R1 hs hrel => ?_
        · rcases hstep with ⟨hw, hop, ht⟩ | ⟨hw, hru, _, _⟩
          · refine .inl ⟨hw, (look_same hc0 hop fun b hlk => ?_).2 _⟩
            obtain ⟨x, hx, v, hv, hbv⟩ := look_operand hc0 hlk
            have hp := (hev x hx v hv).placed hbv
            have hbm : b < (S m).length := by
              rcases Nat.lt_or_ge b (S m).length with h' | h'
              · exact h'
              · obtain ⟨d1, d2⟩ := Im.dom b h'
                rcases hp with hp | hp
                · exact absurd d1 hp
                · exact absurd d2 hp
            refine g.other ho hc0 h.bound.2 hL h.mid.closed hr (fun i o' hi ho' hc' => (h.done i o' ho' (by omega)).2 hi) (fun i o' hi ho' hc' => ?_) (by rw [ht]; exact hlk) ?_ hbm (look_lt hc0 hlk hop)
            · cases e : L.getD i false with
              | false => rfl
              | true => have := (h.done i o' ho' (by omega)).1 e; omega
            · rcases look_may (cfg := cfg) (caller := caller) hlk with h' | h'
              · exact h'
              · rw [hc0] at h'; cases h'
          · exact .inr ⟨hw, hru, rfl⟩
        · exact ⟨_, .inr ⟨m, h.look g hb ho hr hc0 (by rw [hid]; exact hs) hrel⟩⟩
      · -- one of the others: nothing between
        have hmj : m ≤ j := by
          rcases Nat.lt_or_ge j m with hlt | hge
          · rw [(h.done j o ho hc0).2 hlt] at hL; cases hL
          · exact hge
        have hbet : ∀ (i : Nat) o', m ≤ i → i < j → ops[i]? = some o' → classA cfg caller o'.op = 0 := by
          intro i o' h2 h3 ho'
          apply Decidable.byContradiction
          intro hc'
          rcases (g.pair ho' ho h3).2 with hb' | hb'
          · have := (h.done i o' ho' hc').1 (before_in h.mid.closed ho hr hb')
            omega
          · unfold besideA at hb'
            simp only [Bool.and_eq_true, Bool.or_eq_true, decide_eq_true_eq, beq_iff_eq] at hb'
            have := h.bound.1
            rcases hb'.2 with (h4 | h4) | h4
            · omega
            · exact hc' h4
            · exact hc0 h4
        have hS : ∀ k, m ≤ k → k ≤ j → S k = S m := by
          intro k
          induction k with
          | zero => intro h1 _; have : m = 0 := by omega
                    subst this; rfl
          | succ k ih' =>
            intro h2 h3
            by_cases e : m = k + 1
            · subst e; rfl
            · rw [← ih' (by omega) (by omega)]
              have hok : ops[k]? = some ops[k] := Array.getElem?_eq_getElem (by omega)
              obtain ⟨_, h4 | h4⟩ := g.steps k _ hok
              · exact (look_same (σ' := S k) (hbet k _ (by omega) (by omega) hok) h4.2.1 (fun _ _ => rfl)).1
              · exact h4.2.2.1
        have hSj := hS j hmj (Nat.le_refl _)
        by_cases hc2 : classA cfg caller o.op = 2
        · rw [if_pos hc2, hSj] at hstep
          refine close R (S m) (S (j + 1)) lo base hev hwr Im hbw (g.lo_le h.bound.2) hgR ?_ fun v w' R1 hs hrel => ⟨_, .inr ⟨_, h.next g ho hL hr hc0 hbet hs hrel⟩⟩
          rcases hstep with ⟨hw, hop, _⟩ | ⟨hw, hru, hs, _⟩
          · exact .inl ⟨hw, hop⟩
          · exact .inr ⟨hw, hru, hs⟩
        · rw [if_neg hc2, hSj] at hstep
          refine close R (S m) (S (j + 1)) (S m).length w.heap.size hev hwr Im.shut (Nat.le_refl _) (Nat.le_refl _) hgR ?_ fun v w' R1 hs hrel => ⟨_, .inr ⟨_, h.next g ho hL hr hc0 hbet (hs.widen Im hbw (g.lo_le h.bound.2)) hrel⟩⟩
          rcases hstep with ⟨hw, hop, _⟩ | ⟨hw, hru, hs, _⟩
          · exact .inl ⟨hw, hop⟩
          · exact .inr ⟨hw, hru, hs⟩
    rcases hst with h | ⟨m, h⟩
    · -- the quiet ones
      have hbw : base ≤ w.heap.size := Nat.le_trans hb h.mid.step.below.size
      obtain ⟨_, hstep⟩ := g.steps j o ho
      by_cases hjc : j < firstOf cfg caller ops.toList
      · have h0 : R0.Le (R.cut (S j).length) := Ren.le_cut h.mid.step.le (g.dom I0 (g.len_le (by omega) (by omega)))
        have hgR : GlobOk cfg (R.cut (S j).length) := hg.mono h0
        have hsees := h.mid.sees g ho hL hr h0 (fun i o' hij hi hLi v hv => (hv.2 (by omega)).mono (R.cut_le_cut (g.len_le (by omega) (by omega))))
        obtain ⟨hev, hwr⟩ := sees_ev hgR (by rw [h.mid.asize]; exact (g.flen (by omega)).symm) hsees
        have hc2 : classA cfg caller o.op ≠ 2 := firstOf_lt (l := ops.toList) (i := j) (by simpa using ho) hjc
        rw [if_neg hc2] at hstep
        refine close _ (S j) (S (j + 1)) (S j).length w.heap.size hev hwr (h.fam j (by omega)) (Nat.le_refl _) (Nat.le_refl _) hgR ?_ fun v w' R1 hs hrel => ⟨_, .inl (h.next g hb ho hL hr hjc hs hrel)⟩
        rcases hstep with ⟨hw, hop, _⟩ | ⟨hw, hru, hs, _⟩
        · exact .inl ⟨hw, hop⟩
        · exact .inr ⟨hw, hru, hs⟩
      · by_cases hc0 : classA cfg caller o.op = 0
        · have hgR : GlobOk cfg R := hg.mono h.mid.step.le
          have Im := h.mid.step.inv
          have hid : R.cut (S (firstOf cfg caller ops.toList)).length = R := Ren.cut_id Im.dom
          have hsees := h.mid.sees g ho hL hr h.mid.step.le (fun i o' _ _ _ v hv => hv.1)
          obtain ⟨hev, hwr⟩ := sees_ev hgR (by rw [h.mid.asize]; exact (g.flen (by omega)).symm) hsees
          refine close R (S (firstOf cfg caller ops.toList)) (S (firstOf cfg caller ops.toList)) (S (firstOf cfg caller ops.toList)).length w.heap.size hev hwr Im.shut (Nat.le_refl _) (Nat.le_refl _) hgR ?_ fun v w' R1 hs hrel => ?_
          · rcases hstep with ⟨hw, hop, ht⟩ | ⟨hw, hru, _, _⟩
            · refine .inl ⟨hw, (look_same hc0 hop fun b hlk => ?_).2 _⟩
              obtain ⟨x, hx, v, hv, hbv⟩ := look_operand hc0 hlk
              have hp := (hev x hx v hv).placed hbv
              have hbm : b < (S (firstOf cfg caller ops.toList)).length := by
                rcases Nat.lt_or_ge b (S (firstOf cfg caller ops.toList)).length with h' | h'
                · exact h'
                · obtain ⟨d1, d2⟩ := Im.dom b h'
                  rcases hp with hp | hp
                  · exact absurd d1 hp
                  · exact absurd d2 hp
              refine g.other ho hc0 hn hL h.mid.closed hr (fun i o' hi ho' hc' => absurd hc' (firstOf_lt (l := ops.toList) (i := i) (by simpa using ho') hi)) (fun i o' hi ho' hc' => ?_) (by rw [ht]; exact hlk) ?_ hbm (look_lt hc0 hlk hop)
              · cases e : L.getD i false with
                | false => rfl
                | true =>
                  rcases h.notyet i o' ho' e with h' | h'
                  · rw [hc'] at h'; cases h'
                  · omega
              · rcases look_may (cfg := cfg) (caller := caller) hlk with h' | h'
                · exact h'
                · rw [hc0] at h'; cases h'
            · exact .inr ⟨hw, hru, rfl⟩
          · exact ⟨_, .inl (h.look g hb ho hr (by omega) hc0 (by rw [hid]; exact hs) hrel)⟩
        · -- the first of the others: all the quiet ones have come up
          refine goChain _ (h.chain fun i o' hi ho' hc' => ?_)
          rcases (g.pair ho' ho (by omega)).2 with hb' | hb'
          · exact before_in h.mid.closed ho hr hb'
          · unfold besideA at hb'
            simp only [Bool.and_eq_true, Bool.or_eq_true, decide_eq_true_eq, beq_iff_eq] at hb'
            rcases hb'.2 with (h4 | h4) | h4
            · exact absurd h4 hjc
            · exact absurd h4 hc'
            · exact absurd h4 hc0
    · exact goChain m h

/-- **A region that draws its order.** -/
theorem region_ok {id : Nat} {R : Ren} {σ σ' : Sto} {w : World} {a : Act} {fr fr' : List AV} (hm : P.follows .mixedOrders = true) (hcfg : CfgOk P cfg) (hcall : CallOk P cfg call) (hbody : BodyOk P call) (hkeep : CallKeeps call) (h : regionA P cfg call caller lo ops fr σ = some (fr', σ'))
    (I : Inv R σ w lo base) (hb : base ≤ w.heap.size) (hlo : lo ≤ σ.length) (hg : GlobOk cfg R) (hf : VRels R fr a.tmps.toList) (hd : a.defers = [])
    (k : ∀ a' w' R', Step R σ w lo base R' σ' w' → VRels R' fr' a'.tmps.toList → a'.defers = [] → a'.tmps.size = a.tmps.size → Q .normal a' w') : (Code.region id ops true).wp P Q a w := by
  unfold regionA at h
  split at h
  · rename_i hok
    simp only [Bool.and_eq_true, Array.all_eq_true_iff_forall_mem] at hok
    split at h
    · rename_i tr fr1 σ1 hdr
      split at h
      · rename_i hpairs
        cases h
        obtain ⟨F, S, r, h1, h2, h3, h4, _, h6⟩ := drawA_trace hdr
        subst h1 h2
        have hsz : a.tmps.size = (F 0).length := by have := hf.length; simp at this; omega
        have g : Reg P cfg call caller lo ops F S r tr := ⟨fun i o ho => by
            have := h6 i o (by simpa using ho)
            simpa using this, hok.1, hpairs, fun i o ho d hd => by
            have := hok.2 o (Array.mem_of_getElem? ho)
            rw [hd] at this
            simpa using this, hkeep, hlo⟩
        have I' : Inv R (S 0) { w with drawn := w.drawn + 1 } lo base := ⟨I.im, I.dom, I.kindB, I.kindR, I.box, I.rows, I.apart, I.base, I.openB, I.openR⟩
        have hn := cut_le_size (cfg := cfg) (caller := caller) (ops := ops)
        have hlist : ∀ j, (Array.replicate ops.size false).getD j false = false := fun j => by
          simp only [Array.getD_eq_getD_getElem?, Array.getElem?_replicate]; split <;> rfl
        -- the store along the text, as long as nothing of the first class has come up
        have hext : ∀ k, k ≤ firstOf cfg caller ops.toList → ∀ b, b < (S 0).length → (S k)[b]? = (S 0)[b]? := fun k hk b hb' => g.keepQ (Nat.zero_le _) hk hb'
        have invAt : ∀ k, k ≤ firstOf cfg caller ops.toList → Inv R (S k) { w with drawn := w.drawn + 1 } lo base := by
          intro k hk
          have hlen := g.len_le (Nat.zero_le k) (by omega)
          have lt : ∀ {b B}, At R b B → b < (S 0).length := fun hA => I'.at_lt hA
          refine ⟨I'.im, fun b hb' => I'.dom b (by omega), ?_, ?_, ?_, ?_, I'.apart, I'.base, ?_, ?_⟩
          · intro b cs fz hσ
            cases e : R.rows b with
            | none => rfl
            | some x => rw [hext k hk b (lt (.inr ⟨x, e, rfl⟩))] at hσ; rw [I'.kindB b cs fz hσ] at e; cases e
          · intro b es g' sz fz hσ
            cases e : R.box b with
            | none => rfl
            | some x => rw [hext k hk b (lt (.inl e))] at hσ; rw [I'.kindR b es g' sz fz hσ] at e; cases e
          · intro b cs fz hσ B e
            rw [hext k hk b (lt (.inl e))] at hσ
            exact I'.box b cs fz hσ B e
          · intro b es g' sz fz hσ x e
            rw [hext k hk b (lt (.inr ⟨x, e, rfl⟩))] at hσ
            exact I'.rows b es g' sz fz hσ x e
          · intro b cs h1 hσ B e
            rw [hext k hk b (lt (.inl e))] at hσ
            exact I'.openB b cs h1 hσ B e
          · intro b es g' sz h1 hσ x e
            rw [hext k hk b (lt (.inr ⟨x, e, rfl⟩))] at hσ
            exact I'.openR b es g' sz h1 hσ x e
        refine wp_region_any hm (any_ok (R0 := R) (w0 := { w with drawn := w.drawn + 1 }) (base := base) hcfg hcall hbody g I' hb hg ?_ ops.size _ a _ R (by simp) (.inl ⟨⟨by simp, ?_, ?_, ?_, hsz, hd⟩, ?_, ?_, ?_⟩))
        · intro a' w' R' hst hf' hd' hs'
          have e1 : F ops.size = fr' := by rw [← h3]; simp
          have e2 : S ops.size = σ' := by rw [← h4]; simp
          rw [e1] at hf'
          rw [e2] at hst
          refine k a' w' R' ⟨hst.le, hst.inv, ⟨hst.below.os, hst.below.tape, hst.below.output, hst.below.size, hst.below.block⟩, hst.imNew, hst.keep, hst.len, hst.boxOld, hst.rowsOld, hst.rowsNone⟩ hf' hd' (by omega)
        · intro j o _ hL
          rw [hlist] at hL; cases hL
        · exact ⟨.refl R, invAt _ (Nat.le_refl _), .refl _ _, fun _ _ _ h h' => absurd h (by simp [h']), fun b hb' => hext _ (Nat.le_refl _) b (by have := g.lo; omega), g.len_le (Nat.zero_le _) hn, fun _ _ => rfl, fun _ _ _ => rfl, fun _ _ h => h⟩
        · intro d v hv
          right
          refine ⟨fun j o _ _ => hlist j, ?_⟩
          have hdl : d < (F 0).length := by rw [← hsz]; exact (Array.getElem?_eq_some_iff.1 hv).1
          refine ⟨_, List.getElem?_eq_getElem hdl, ?_⟩
          obtain ⟨v', hv', hr⟩ := hf.get (List.getElem?_eq_getElem hdl)
          have : v' = v := by simpa [hv] using hv'.symm
          rw [← this]; exact hr
        · intro k hk
          have hid : R.cut (S k).length = R := Ren.cut_id (fun b hb' => I'.dom b (by have := g.len_le (Nat.zero_le k) (by omega); omega))
          rw [hid]
          exact (invAt k hk).shut
        · intro j o _ hL
          rw [hlist] at hL; cases hL
        · intro j hj _ b h1 _
          exact I'.dom b (by have := g.len_le (Nat.zero_le j) (by omega); omega)
      · cases h
    · cases h
  · cases h
end
end Go.Abs

/- The collector at a loop's back edge. -/
namespace Go.Abs
open Go.RowKit (Below)

def Ren.only (R : Ren) (K : Nat → Bool) : Ren := ⟨fun b => if K b = true then R.box b else none, fun b => if K b = true then R.rows b else none, R.im⟩

section
variable {R : Ren} {K : Nat → Bool}
theorem only_box {b B : Nat} (h : R.box b = some B) (k : K b = true) : (R.only K).box b = some B := by simp [Ren.only, k, h]
theorem only_rows {b : Nat} {r : RRow} (h : R.rows b = some r) (k : K b = true) : (R.only K).rows b = some r := by simp [Ren.only, k, h]

mutual
theorem VRel.of_within : ∀ {a : AV} {v : Value}, VRel R a v → a.within K = true → VRel (R.only K) a v
  | _, _, .bool b, _ => .bool b
  | _, _, .int k n, _ => .int k n
  | _, _, .str s, _ => .str s
  | _, _, .nilIface, _ => .nilIface
  | _, _, .iface t x, f => .iface t (x.of_within (by simpa [AV.within] using f))
  | _, _, .agg x, f => .agg (x.of_within (by simpa [AV.within] using f))
  | _, _, .tuple x, f => .tuple (x.of_within (by simpa [AV.within] using f))
  | _, _, .func _ x y, f => .func _ (x.of_within (by simp [AV.within] at f; exact f.1)) (y.of_within (by simp [AV.within] at f; exact f.2))
  | _, _, .nilFunc, _ => .nilFunc
  | _, _, .nilp, _ => .nilp
  | _, _, .ptr off e, f => .ptr off (only_box e (by simpa [AV.within] using f))
  | _, _, .eptr i off e, f => .eptr i off (only_rows e (by simpa [AV.within] using f))
  | _, _, .eptrOld i off x e hg, f => .eptrOld i off x (only_rows e (by simpa [AV.within] using f)) hg
  | _, _, .ro off x, f => .ro off (x.of_within (by simpa [AV.within] using f))
  | _, _, .list0 x p cap e, _ => .list0 x p cap e
  | _, _, .list x sz cap e l c, f => .list x sz cap (e.of_within (by simpa [AV.within] using f)) l c
  | _, _, .sl off len p e hl hp, f => .sl off len p (only_rows e (by simpa [AV.within] using f)) hl hp
  | _, _, .slOld off len p cap e hg, f => .slOld off len p cap (only_rows e (by simpa [AV.within] using f)) hg
  | _, _, .bsl off len cap p e l hp, f => .bsl off len cap p (only_box e (by simpa [AV.within] using f)) l hp
  | _, _, .opq v, _ => .opq v
theorem VRels.of_within : ∀ {as : List AV} {vs : List Value}, VRels R as vs → AV.withins K as = true → VRels (R.only K) as vs
  | _, _, .nil, _ => .nil
  | _, _, .cons x y, f => .cons (x.of_within (by simp [AV.withins] at f; exact f.1)) (y.of_within (by simp [AV.withins] at f; exact f.2))
theorem CellsAt.of_within : ∀ {as : List AV} {B o : Nat}, CellsAt R as B o → AV.withins K as = true → CellsAt (R.only K) as B o
  | _, _, _, .nil B o, _ => .nil B o
  | _, _, _, .cons e x y, f => .cons e (x.of_within (by simp [AV.withins] at f; exact f.1)) (y.of_within (by simp [AV.withins] at f; exact f.2))
theorem ElemsAt.of_within : ∀ {es : List AV} {sz B o : Nat}, ElemsAt R es sz B o → AV.withins K es = true → ElemsAt (R.only K) es sz B o
  | _, _, _, _, .nil sz B o, _ => .nil sz B o
  | _, _, _, _, .cons (e := a) e x y, f => .cons e (x.of_within (by
      simp [AV.withins] at f; obtain ⟨f1, _⟩ := f
      cases a <;> simp_all [AV.cells, AV.withins, AV.within])) (y.of_within (by simp [AV.withins] at f; exact f.2))
end
end

theorem withins_append {K : Nat → Bool} : ∀ {as bs : List AV}, AV.withins K (as ++ bs) = (AV.withins K as && AV.withins K bs)
  | [], _ => by simp [AV.withins]
  | a :: as, bs => by simp [AV.withins, withins_append, Bool.and_assoc]

theorem within_cells {K : Nat → Bool} {e : AV} (h : e.within K = true) : AV.withins K e.cells = true := by
  cases e <;> simp_all [AV.cells, AV.withins, AV.within]

theorem withins_flat {K : Nat → Bool} : ∀ {es : List AV}, AV.withins K es = true → AV.withins K (es.flatMap AV.cells) = true
  | [], _ => rfl
  | e :: es, h => by
    simp only [AV.withins, Bool.and_eq_true] at h
    rw [List.flatMap_cons, withins_append, within_cells h.1, withins_flat h.2]; rfl

theorem withinS_at {n0 : Nat} {L : List Nat} : ∀ {σ : Sto} {b i : Nat} {x : Blk}, withinS n0 L b σ = true → σ[i]? = some x → keptA n0 L (b + i) = true → AV.withins (keptA n0 L) x.parts = true
  | [], _, _, _, _, h, _ => by simp at h
  | y :: σ, b, 0, x, h, hx, hk => by
    simp at hx; subst hx
    simp only [withinS, Bool.and_eq_true, Bool.or_eq_true, Bool.not_eq_true'] at h
    rcases h.1 with h | h
    · rw [Nat.add_zero] at hk; rw [hk] at h; cases h
    · exact h
  | y :: σ, b, i + 1, x, h, hx, hk => by
    simp only [withinS, Bool.and_eq_true] at h
    exact withinS_at (b := b + 1) h.2 (by simpa using hx) (by rw [show b + 1 + i = b + (i + 1) by omega]; exact hk)

theorem clear_rel {R : Ren} : ∀ {dead : List Nat} {fr : List AV} {vs : List Value}, VRels R fr vs → VRels R (clearA' dead fr) vs
  | [], _, _, h => h
  | d :: dead, fr, vs, h => by
    have h1 : VRels R (fr.set d .opq) vs := by
      refine VRels.of_get (by simp [h.length]) fun i a v ha hv => ?_
      rw [List.getElem?_set] at ha
      split at ha
      · split at ha
        · cases ha; exact .opq v
        · cases ha
      · obtain ⟨u, hu, hr⟩ := h.get ha
        rw [hv] at hu; cases hu; exact hr
    exact clear_rel (dead := dead) h1

/-- What the collector leaves. -/
theorem gc_ok {R0 R : Ren} {σ0 σ : Sto} {w0 w : World} {lo base n0 : Nat} {dead : List Nat} {fr : List AV} {vs : List Value} (I0 : Inv R0 σ0 w0 lo base) (st : Step R0 σ0 w0 lo base R σ w) (hn : n0 = σ0.length) (hlo : lo ≤ n0) (hv : VRels R fr vs) :
    ∃ R', Step R0 σ0 w0 lo base R' (gcA dead n0 fr σ).2 w ∧ VRels R' (gcA dead n0 fr σ).1 vs := by
  subst hn
  unfold gcA
  split
  · exact ⟨R, st, hv⟩
  · simp only
    generalize hL : reachA σ0.length σ (σ.length - σ0.length) (addNew σ0.length (AV.blockss (clearA' dead fr) ++ (σ.take σ0.length).flatMap fun x => AV.blockss x.parts) []) = L
    split
    · rename_i hc
      simp only [Bool.and_eq_true] at hc
      obtain ⟨h1, h2⟩ := hc
      generalize hm : L.foldl (fun a b => max a (b + 1)) σ0.length = m
      have hmn : σ0.length ≤ m := by rw [← hm]; exact max_le (n0 := 0)
      have I := st.inv
      let K := keptA σ0.length L
      have hKold : ∀ b, b < σ0.length → K b = true := fun b hb => by simp [K, keptA, hb]
      have hKm : ∀ b, K b = true → b < m := fun b hb => by
        simp only [K, keptA, Bool.or_eq_true, decide_eq_true_eq, List.contains_iff_mem] at hb
        rcases hb with hb | hb
        · omega
        · rw [← hm]; exact max_mem hb
      have hget : ∀ b, K b = true → (blankA σ0.length L 0 (σ.take m))[b]? = σ[b]? := fun b hb => by
        have hk : keptA σ0.length L b = true := hb
        rw [blankA_get, Nat.zero_add, List.getElem?_take, if_pos (hKm b hb)]
        cases σ[b]? <;> simp [hk]
      have hR' : ∀ b, (R.only K).box b ≠ none ∨ (R.only K).rows b ≠ none → K b = true := fun b h => by
        cases hk : K b with
        | true => rfl
        | false => simp [Ren.only, hk] at h
      have boxOf : ∀ {b B}, (R.only K).box b = some B → K b = true ∧ R.box b = some B := fun {b B} h => by
        have hk := hR' b (.inl (by rw [h]; simp))
        exact ⟨hk, by simpa [Ren.only, hk] using h⟩
      have rowsOf : ∀ {b r}, (R.only K).rows b = some r → K b = true ∧ R.rows b = some r := fun {b r} h => by
        have hk := hR' b (.inr (by rw [h]; simp))
        exact ⟨hk, by simpa [Ren.only, hk] using h⟩
      have atOf : ∀ {b B}, At (R.only K) b B → K b = true ∧ At R b B := fun {b B} h => by
        rcases h with h | ⟨r, h, e⟩
        · exact ⟨(boxOf h).1, .inl (boxOf h).2⟩
        · exact ⟨(rowsOf h).1, .inr ⟨r, (rowsOf h).2, e⟩⟩
      have hin : ∀ {b x}, K b = true → σ[b]? = some x → AV.withins K x.parts = true := fun {b x} hk hx => withinS_at (b := 0) h2 hx (by rw [Nat.zero_add]; exact hk)
      have I' : Inv (R.only K) (blankA σ0.length L 0 (σ.take m)) w lo base := by
        refine ⟨I.im, ?_, ?_, ?_, ?_, ?_, ?_, ?_, ?_, ?_⟩
        · intro b hb
          rw [blankA_length, List.length_take] at hb
          constructor
          · cases e : (R.only K).box b with
            | none => rfl
            | some B =>
              have := hKm b (boxOf e).1
              have := I.at_lt (.inl (boxOf e).2)
              omega
          · cases e : (R.only K).rows b with
            | none => rfl
            | some r =>
              have := hKm b (rowsOf e).1
              have := I.at_lt (.inr ⟨r, (rowsOf e).2, rfl⟩)
              omega
        · intro b cs fz hσ
          cases e : (R.only K).rows b with
          | none => rfl
          | some r =>
            rw [hget b (rowsOf e).1] at hσ
            have := I.kindB b cs fz hσ
            rw [(rowsOf e).2] at this; cases this
        · intro b es g sz fz hσ
          cases e : (R.only K).box b with
          | none => rfl
          | some r =>
            rw [hget b (boxOf e).1] at hσ
            have := I.kindR b es g sz fz hσ
            rw [(boxOf e).2] at this; cases this
        · intro b cs fz hσ B e
          obtain ⟨hk, hB⟩ := boxOf e
          rw [hget b hk] at hσ
          obtain ⟨c, T, q1, q2, q3⟩ := I.box b cs fz hσ B hB
          exact ⟨c, T, q1, q2.of_within (hin hk hσ), q3⟩
        · intro b es g sz fz hσ r e
          obtain ⟨hk, hr⟩ := rowsOf e
          rw [hget b hk] at hσ
          obtain ⟨g1, p1, p2, p3, p4, c, T, q1, q2, q3, q4⟩ := I.rows b es g sz fz hσ r hr
          exact ⟨g1, p1, p2, p3, p4, c, T, q1, q2, q3.of_within (withins_flat (hin hk hσ)), q4⟩
        · intro b b' B h1 h2
          exact I.apart b b' B (atOf h1).2 (atOf h2).2
        · intro b B h1 h2
          exact I.base b B h1 (atOf h2).2
        · intro b cs h1 hσ B e o
          obtain ⟨hk, hB⟩ := boxOf e
          rw [hget b hk] at hσ
          exact I.openB b cs h1 hσ B hB o
        · intro b es g sz h1 hσ r e o
          obtain ⟨hk, hr⟩ := rowsOf e
          rw [hget b hk] at hσ
          exact I.openR b es g sz h1 hσ r hr o
      refine ⟨R.only K, ⟨⟨fun b B e => ?_, fun b r e => ?_, st.le.im⟩, I', st.below, st.imNew, fun b hb => ?_, ?_, fun b hb => ?_, fun b q1 q2 => ?_, fun b q1 q2 => ?_⟩, (clear_rel hv).of_within h1⟩
      · exact only_box (st.le.box b B e) (hKold b (I0.at_lt (.inl e)))
      · obtain ⟨r', e', g1, g2⟩ := st.le.rows b r e
        exact ⟨r', only_rows e' (hKold b (I0.at_lt (.inr ⟨r, e, rfl⟩))), g1, g2⟩
      · rw [hget b (hKold b (by omega))]; exact st.keep b hb
      · rw [blankA_length, List.length_take]; have := st.len; omega
      · have := hKold b hb
        simp only [Ren.only, this, if_true]; exact st.boxOld b hb
      · have := hKold b q2
        simp only [Ren.only, this, if_true]; exact st.rowsOld b q1 q2
      · have := hKold b q1
        simp only [Ren.only, this, if_true]; exact st.rowsNone b q1 q2
    · exact ⟨R, st, hv⟩

end Go.Abs

/- What the interpreter answers is what a run comes to. -/
namespace Go.Abs
open Go.RowKit (Below)

variable {P : Program} {lo base : Nat}

def exitOf : XE → Exit
  | .normal => .normal
  | .exit id => .exit id
  | .ret => .ret

theorem results_run {R : Ren} {σ : Sto} {w : World} {fr : List AV} {ts : Array Value} (I : Inv R σ w lo base) (hf : VRels R fr ts.toList) {f : ResultVar → Sem Value} (f1 : ∀ t, f (.tmp t) = pure (ts.getD t undef))
    (f2 : ∀ a t, f (.cell a t) = do loadVar t (← asAddr (ts.getD a undef))) : ∀ {rs : List ResultVar} {vs : List AV}, resultsA P σ fr rs = some vs →
    ∃ us, (rs.mapM f).run P w = .ok us w ∧ VRels R vs us
  | [], vs, h => by
    simp only [resultsA, Option.some.injEq] at h; subst h
    exact ⟨[], rfl, .nil⟩
  | .tmp t :: rest, vs, h => by
    simp only [resultsA, Option.map_eq_some_iff] at h
    obtain ⟨vs', h, rfl⟩ := h
    obtain ⟨us, hu, hr⟩ := results_run I hf f1 f2 h
    refine ⟨ts.getD t undef :: us, ?_, .cons (getD_rel hf t) hr⟩
    rw [List.mapM_cons, f1]
    simp only [Sem.run_bind, Sem.run_pure, Result.andThen_ok, hu]
  | .cell a t :: rest, vs, h => by
    simp only [resultsA] at h
    split at h
    · rename_i v hv
      simp only [Option.map_eq_some_iff] at h
      obtain ⟨vs', h, rfl⟩ := h
      obtain ⟨us, hu, hr⟩ := results_run I hf f1 f2 h
      obtain ⟨u, hl, hru⟩ := load_run (P := P) I hv (getD_rel hf a)
      refine ⟨u :: us, ?_, .cons hru hr⟩
      have hl' : (do loadVar t (← asAddr (ts.getD a undef)) : Sem Value).run P w = .ok u w := by
        unfold loadA at hv
        split at hv
        · rename_i cs off hp
          obtain ⟨B, o, he, hh⟩ := place_rel I hp (getD_rel hf a)
          rw [he] at hl ⊢
          simp only [Instr.loadAt, Instr.sureAddr, Sem.run_bind, Sem.run_pure, Result.andThen_ok] at hl
          simp only [asAddr, Sem.run_bind, Sem.run_pure, Result.andThen_ok]
          exact hl
        · cases hv
      rw [List.mapM_cons, f2, Sem.run_bind, hl']
      simp only [Result.andThen_ok, Sem.run_bind, Sem.run_pure, hu]
    · cases h

theorem results_ok {R : Ren} {σ : Sto} {w : World} {fr : List AV} {ts : Array Value} {fn : Func} {vs : List AV} (I : Inv R σ w lo base) (hf : VRels R fr ts.toList) (h : resultsA P σ fr fn.results.toList = some vs) :
    ∃ v, (results fn ts).run P w = .ok v w ∧ VRel R (tupleA vs) v := by
  obtain ⟨us, hu, hr⟩ := results_run I hf (f := fun | .tmp t => pure (ts.getD t undef) | .cell a t => do loadVar t (← asAddr (ts.getD a undef))) (fun _ => rfl) (fun _ _ => rfl) h
  unfold results
  rw [Array.mapM_eq_mapM_toList]
  simp only [Sem.run_bind, map_eq_pure_bind, Sem.run_pure]
  refine ⟨(if h : us.toArray.size = 1 then us.toArray[0] else .tuple us.toArray), ?_, ?_⟩
  · refine (congrArg (fun x => (x.andThen fun a w' => Result.ok a.toArray w').andThen fun a w' => Result.ok (if h : a.size = 1 then a[0] else Value.tuple a) w') hu).trans ?_
    rfl
  cases hr with
  | nil => exact .tuple .nil
  | cons h1 h2 => cases h2 with
    | nil => exact h1
    | cons h2 h3 =>
      simp only [tupleA, List.size_toArray, List.length_cons]
      rw [dif_neg (by omega)]
      exact .tuple (.cons h1 (.cons h2 h3))

theorem rels_rep {R : Ren} : ∀ n : Nat, VRels R (List.replicate n undefA) (List.replicate n undef)
  | n => VRels.replicate (.tuple .nil) n

/-- What a body comes to. -/
def RecOk (P : Program) (cfg : Cfg) (rec : Exec) : Prop := ∀ fn lo c fr σ x fr' σ', rec fn lo c fr σ = some (x, fr', σ') → ∀ R w base a Q, Inv R σ w lo base → base ≤ w.heap.size → lo ≤ σ.length → GlobOk cfg R → VRels R fr a.tmps.toList → a.defers = [] →
  (∀ a' w' R', Step R σ w lo base R' σ' w' → VRels R' fr' a'.tmps.toList → a'.defers = [] → Q (exitOf x) a' w') → c.wp P Q a w

theorem callW_ok {cfg : Cfg} {rec : Exec} (h : RecOk P cfg rec) : CallOk P cfg (callW P rec) := by
  intro f args lo σ r σ' hc R w base vs I hb hlo hg hv
  unfold callW at hc
  cases hfn : P.funcs[f]? with
  | none => simp [hfn] at hc
  | some fn =>
    simp only [hfn] at hc
    cases hbd : fn.body with
    | none => simp [hbd] at hc
    | some b =>
      simp only [hbd] at hc
      have hlen : args.length = vs.length := hv.length
      have hfr : VRels R (args ++ List.replicate (fn.ntmps - args.length) undefA) (vs.toArray ++ Array.replicate (fn.ntmps - vs.toArray.size) undef).toList := by
        rw [Array.toList_append, Array.toList_replicate]
        simp only [List.size_toArray, hlen]
        exact hv.append (rels_rep _)
      refine calls_of_wp hfn hbd ?_
      unfold finA at hc
      split at hc
      · cases hc
      · rename_i x fr' σ1 hx he
        simp only [Option.map_eq_some_iff, Prod.mk.injEq] at hc
        obtain ⟨vs', hres, rfl, rfl⟩ := hc
        refine h f lo b _ σ x fr' σ1 he R w base _ _ I hb hlo hg hfr rfl ?_
        intro a' w' R' hst hf' hd
        obtain ⟨v, hv, hrel⟩ := results_ok (fn := fn) hst.inv hf' hres
        have post : a'.defers = [] ∧ ∃ v, (results fn a'.tmps).run P w' = .ok v w' ∧ Post R σ w lo base (tupleA vs') σ1 (.returned v) w' := ⟨hd, v, hv, v, R', rfl, hst, hrel⟩
        cases x with
        | normal => exact post
        | ret => exact post
        | exit id => exact absurd rfl (hx id)
      · cases hc

theorem callW_body {cfg : Cfg} {rec : Exec} (hcfg : CfgOk P cfg) : BodyOk P (callW P rec) := by
  intro f args lo σ x h
  unfold callW at h
  cases hfn : P.funcs[f]? with
  | none => simp [hfn] at h
  | some fn =>
    simp only [hfn] at h
    cases hbd : fn.body with
    | none => simp [hbd] at h
    | some b => exact ⟨fn, rfl, hcfg.plain f fn hfn, by simp [hbd]⟩

/-- A loop's rounds. -/
def RoundsOk (P : Program) (cfg : Cfg) (k : Nat) : Prop := ∀ fn lo c fr σ x fr' σ', exec P cfg k fn lo (.loop c) fr σ = some (x, fr', σ') → ∀ R w base a Q, Inv R σ w lo base → base ≤ w.heap.size → lo ≤ σ.length → GlobOk cfg R → VRels R fr a.tmps.toList → a.defers = [] →
  (∀ a' w' R', Step R σ w lo base R' σ' w' → VRels R' fr' a'.tmps.toList → a'.defers = [] → Q (exitOf x) a' w') → Code.rounds P c Q k a w

/-- One behind the other. -/
theorem seqW_ok {cfg : Cfg} {rec : Exec} (ih : RecOk P cfg rec) {fn lo : Nat} {c1 c2 : Code} {fr fr' : List AV} {σ σ' : Sto} {x : XE} (h : seqW rec fn lo c2 (rec fn lo c1 fr σ) = some (x, fr', σ')) {R : Ren} {w : World} {base : Nat} {a : Act} {Q Q1 : Exit → Act → World → Prop}
    (I : Inv R σ w lo base) (hb : base ≤ w.heap.size) (hlo : lo ≤ σ.length) (hg : GlobOk cfg R) (hf : VRels R fr a.tmps.toList) (hd : a.defers = [])
    (hq : ∀ a' w' R', Step R σ w lo base R' σ' w' → VRels R' fr' a'.tmps.toList → a'.defers = [] → Q (exitOf x) a' w')
    (hn : ∀ fr1 σ1, rec fn lo c2 fr1 σ1 = some (x, fr', σ') → ∀ a1 w1 R1, Step R σ w lo base R1 σ1 w1 → VRels R1 fr1 a1.tmps.toList → a1.defers = [] → Q1 .normal a1 w1)
    (he : ∀ e a1 w1, e ≠ .normal → Q e a1 w1 → Q1 e a1 w1) : c1.wp P Q1 a w := by
  unfold seqW at h
  split at h
  · rename_i fr1 σ1 e1
    exact ih fn lo c1 fr σ .normal fr1 σ1 e1 R w base a _ I hb hlo hg hf hd fun a1 w1 R1 hst hf1 hd1 => hn fr1 σ1 h a1 w1 R1 hst hf1 hd1
  · rename_i hnn
    refine ih fn lo c1 fr σ x fr' σ' h R w base a _ I hb hlo hg hf hd fun a1 w1 R1 hst hf1 hd1 => ?_
    have := hq a1 w1 R1 hst hf1 hd1
    cases x with
    | normal => exact absurd h (hnn fr' σ')
    | exit id => exact he _ _ _ (by simp [exitOf]) this
    | ret => exact he _ _ _ (by simp [exitOf]) this

theorem exec_all {cfg : Cfg} (hm : P.follows .mixedOrders = true) (hcfg : CfgOk P cfg) : ∀ k, RecOk P cfg (exec P cfg k) ∧ RoundsOk P cfg k
  | 0 => ⟨fun _ _ _ _ _ _ _ _ h => by simp [exec] at h, fun _ _ _ _ _ _ _ _ h => by simp [exec] at h⟩
  | k + 1 => by
    obtain ⟨ih, ihr⟩ := exec_all hm hcfg k
    have hrounds : RoundsOk P cfg (k + 1) := by
      intro fn lo c fr σ x fr' σ' h R w base a Q I hb hlo hg hf hd hq
      simp only [exec, execW] at h
      rw [rounds_succ]
      generalize cfg.dead fn (firstId c) = dead at h
      have hf0 := clear_rel (dead := dead) hf
      unfold seqW at h
      split at h
      · rename_i fr1 σ1 e1
        unfold loopW at e1
        split at e1
        · rename_i fr0 σ0 e0
          simp only [Option.some.injEq, Prod.mk.injEq, true_and] at e1
          refine ih fn lo c _ σ .normal fr0 σ0 e0 R w base a _ I hb hlo hg hf0 hd fun a1 w1 R1 hst hf1 hd1 => ?_
          obtain ⟨R2, hst2, hf2⟩ := gc_ok (dead := dead) (n0 := σ.length) I hst rfl hlo hf1
          rw [e1] at hst2 hf2
          exact ihr fn lo c fr1 σ1 x fr' σ' h R2 w1 base a1 Q hst2.inv (Nat.le_trans hb hst2.below.size) (Nat.le_trans hlo hst2.len) (hg.mono hst2.le) hf2 hd1 fun a2 w2 R3 hst3 hf3 hd3 => hq a2 w2 R3 (hst2.trans hst3) hf3 hd3
        · rename_i hn
          exact absurd e1 (hn fr1 σ1)
      · rename_i hnn
        unfold loopW at h
        split at h
        · rename_i fr0 σ0 e0
          simp only [Option.some.injEq, Prod.mk.injEq] at h
          obtain ⟨rfl, h⟩ := h
          exfalso
          refine hnn fr' σ' ?_
          unfold loopW
          rw [e0]
          simp only [h]
        · refine ih fn lo c _ σ x fr' σ' h R w base a _ I hb hlo hg hf0 hd fun a1 w1 R1 hst hf1 hd1 => ?_
          have := hq a1 w1 R1 hst hf1 hd1
          cases x with
          | normal =>
            exfalso
            rename_i hn2
            exact hn2 fr' σ' h
          | exit id => exact this
          | ret => exact this
    refine ⟨?_, hrounds⟩
    intro fn lo c fr σ x fr' σ' h R w base a Q I hb hlo hg hf hd hq
    have hcall := callW_ok ih
    have hbody : BodyOk P (callW P (exec P cfg k)) := callW_body hcfg
    have hkeep : CallKeeps (callW P (exec P cfg k)) := callW_keeps (exec_keeps k)
    cases c
    case loop b => exact wp_loop_rounds (k + 1) (hrounds fn lo b fr σ x fr' σ' h R w base a Q I hb hlo hg hf hd hq)
    case region id ops draw =>
      cases draw with
      | true =>
        simp only [exec, execW, normW, Option.map_eq_some_iff, Prod.mk.injEq] at h
        obtain ⟨⟨fr1, σ1⟩, h, rfl, rfl, rfl⟩ := h
        exact region_ok hm hcfg hcall hbody hkeep h I hb hlo hg hf hd (fun a' w' R' hst hf' hd' _ => hq a' w' R' hst hf' hd')
      | false =>
        simp only [exec, execW, normW, Option.map_eq_some_iff, Prod.mk.injEq] at h
        obtain ⟨⟨fr1, σ1⟩, h, rfl, rfl, rfl⟩ := h
        exact wp_region_list (ops_ok hcfg hcall hbody trivial h I hb hlo hg hf hd (fun a' w' R' hst hf' hd' _ => hq a' w' R' hst hf' hd'))
    all_goals simp only [exec, execW] at h
    case skip => cases h; exact wp_skip (hq a w R (.refl I) hf hd)
    case label => cases h; exact wp_label (hq a w R (.refl I) hf hd)
    case exit id => cases h; exact wp_exit (hq a w R (.refl I) hf hd)
    case ret => cases h; exact wp_ret (hq a w R (.refl I) hf hd)
    case seq c1 c2 =>
      refine wp_seq (seqW_ok ih h I hb hlo hg hf hd hq ?_ ?_)
      · intro fr1 σ1 h1 a1 w1 R1 hst hf1 hd1
        exact ih fn lo c2 fr1 σ1 x fr' σ' h1 R1 w1 base a1 Q hst.inv (Nat.le_trans hb hst.below.size) (Nat.le_trans hlo hst.len) (hg.mono hst.le) hf1 hd1 fun a2 w2 R2 hst2 hf2 hd2 => hq a2 w2 R2 (hst.trans hst2) hf2 hd2
      · intro e a1 w1 hne hQ
        cases e <;> first | exact hQ | exact absurd rfl hne
    case cond y c1 c2 =>
      unfold condW at h
      split at h
      · rename_i he
        have hr := ev_ok hf hg he
        refine wp_cond_true ?_ (ih fn lo c1 fr σ x fr' σ' h R w base a Q I hb hlo hg hf hd hq)
        generalize a.eval y = u at hr
        cases hr; rfl
      · rename_i he
        have hr := ev_ok hf hg he
        refine wp_cond_false ?_ (ih fn lo c2 fr σ x fr' σ' h R w base a Q I hb hlo hg hf hd hq)
        generalize a.eval y = u at hr
        cases hr; rfl
      · cases h
    case block id b =>
      refine wp_block ?_
      unfold blockW at h
      split at h
      · rename_i id' fr1 σ1 e1
        refine ih fn lo b fr σ (.exit id') fr1 σ1 e1 R w base a _ I hb hlo hg hf hd fun a1 w1 R1 hst hf1 hd1 => ?_
        simp only [exitOf, Exit.inBlock]
        split at h
        · rename_i e; cases h; rw [if_pos e]; exact hq a1 w1 R1 hst hf1 hd1
        · rename_i e; cases h; rw [if_neg e]; exact hq a1 w1 R1 hst hf1 hd1
      · rename_i hn
        refine ih fn lo b fr σ x fr' σ' h R w base a _ I hb hlo hg hf hd fun a1 w1 R1 hst hf1 hd1 => ?_
        cases x with
        | normal => exact hq a1 w1 R1 hst hf1 hd1
        | exit id => exact absurd h (hn id fr' σ')
        | ret => exact hq a1 w1 R1 hst hf1 hd1
    case scope b =>
      refine wp_scope_straight (ih fn lo b fr σ x fr' σ' h R w base a _ I hb hlo hg hf hd fun a1 w1 R1 hst hf1 hd1 => ?_)
      have := hq a1 w1 R1 hst hf1 hd1
      cases x <;> exact this
    all_goals cases h

/-- **What a call of the interpreter's answers is what the call comes to.** -/
theorem call_ok {cfg : Cfg} (hm : P.follows .mixedOrders = true) (hcfg : CfgOk P cfg) (k : Nat) : CallOk P cfg (callF P cfg k) := callW_ok (exec_all hm hcfg k).1
end Go.Abs

/- What a reading of the arguments gives: abstract values. -/
namespace Go.Abs
open Go.RowKit (Below)

variable {P : Program}

def aggB (P : Program) (t : TypeId) : Bool := match P.underlying t with | some (.struct _) => true | some (.array _ _) => true | _ => false

/-- The cells of a value of a type. -/
def TyC (P : Program) : Nat → TypeId → List AV → Prop
  | 0, _, _ => False
  | n + 1, t, cs => match P.underlying t with
    | some .bool => ∃ b, cs = [.bool b]
    | some (.int k) => ∃ m, cs = [.int k m] ∧ (Lit.int k m).wf = true
    | some .string => ∃ s, cs = [.str s] ∧ s.size ≤ maxLen
    | some (.slice e) => ∃ es x, cs = [.list es x] ∧ es.length ≤ maxLen ∧ ∀ a ∈ es, if aggB P e = true then ∃ ds, a = .agg ds ∧ TyC P n e ds else TyC P n e [a]
    | some (.struct fs) => cs.length = P.cellsOf t ∧ ∀ (i : Nat) f, fs[i]? = some f → TyC P n f.type ((cs.drop f.offset).take (P.cellsOf f.type))
    | some (.array m e) => cs.length = P.cellsOf t ∧ ∀ i < m, TyC P n e ((cs.drop (i * P.cellsOf e)).take (P.cellsOf e))
    | _ => False

/-- Fields one behind the other. -/
def contig (P : Program) : List Field → Nat → Option Nat
  | [], n => some n
  | f :: fs, n => if f.offset = n then contig P fs (n + P.cellsOf f.type) else none

/-- A set of types that hold numbers, strings, and slices of them. -/
def plainB (P : Program) (T : List TypeId) : Bool :=
  T.all fun t => match P.underlying t with
    | some .bool => P.cellsOf t == 1
    | some (.int _) => P.cellsOf t == 1
    | some .string => P.cellsOf t == 1
    | some (.slice e) => T.contains e && decide (0 < P.cellsOf e) && P.cellsOf t == 1
    | some (.struct fs) => fs.toList.all (fun f => T.contains f.type) && contig P fs.toList 0 == some (P.cellsOf t)
    | some (.array n e) => T.contains e && P.cellsOf t == n * P.cellsOf e
    | _ => false

theorem plain_at {T : List TypeId} (h : plainB P T = true) {t : TypeId} (ht : t ∈ T) : (match P.underlying t with
    | some .bool => P.cellsOf t == 1
    | some (.int _) => P.cellsOf t == 1
    | some .string => P.cellsOf t == 1
    | some (.slice e) => T.contains e && decide (0 < P.cellsOf e) && P.cellsOf t == 1
    | some (.struct fs) => fs.toList.all (fun f => T.contains f.type) && contig P fs.toList 0 == some (P.cellsOf t)
    | some (.array n e) => T.contains e && P.cellsOf t == n * P.cellsOf e
    | _ => false) = true := by
  unfold plainB at h
  exact List.all_eq_true.1 h t ht

/-- All memory stays as it is. -/
def Ren.still (W : World) : Ren := ⟨fun _ => none, fun _ => none, fun B o => W.cell? ⟨B, o, none⟩⟩

theorem Inv.still (W : World) (lo base : Nat) : Inv (Ren.still W) [] W lo base := by
  have hA : ∀ {b B}, ¬ At (Ren.still W) b B := fun h => by rcases h with h | ⟨_, h, _⟩ <;> simp [Ren.still] at h
  refine ⟨fun _ _ _ h => h, fun _ _ => ⟨rfl, rfl⟩, fun _ _ _ _ => rfl, fun _ _ _ _ _ _ => rfl, ?_, ?_, fun _ _ _ h _ => absurd h hA, fun _ _ _ h => absurd h hA, ?_, ?_⟩
  · intro b cs fz h; simp at h
  · intro b es g sz fz h; simp at h
  · intro b cs _ h; simp at h
  · intro b es g sz _ h; simp at h

/-- One piece behind the other. -/
theorem pieces_rel {R : Ren} {P : Program} {G : TypeId → List AV → Prop} : ∀ {fs : List Field} {n m : Nat} {cs : List Value}, contig P fs n = some m → cs.length = m →
    (∀ f ∈ fs, ∃ as, VRels R as ((cs.drop f.offset).take (P.cellsOf f.type)) ∧ G f.type as) → ∃ as, VRels R as (cs.drop n) ∧
      ∀ (i : Nat) f, fs[i]? = some f → n ≤ f.offset ∧ f.offset + P.cellsOf f.type ≤ m ∧ G f.type ((as.drop (f.offset - n)).take (P.cellsOf f.type))
  | [], n, m, cs, h, hl, _ => by
    simp only [contig, Option.some.injEq] at h
    subst h
    refine ⟨[], ?_, fun i f h => by simp at h⟩
    rw [List.drop_eq_nil_of_le (by omega)]; exact .nil
  | f :: fs, n, m, cs, h, hl, hp => by
    simp only [contig] at h
    split at h
    · rename_i ho
      subst ho
      obtain ⟨as, hr, hg⟩ := pieces_rel (G := G) h hl (fun f' hf' => hp f' (by simp [hf']))
      obtain ⟨bs, hb, hgb⟩ := hp f (by simp)
      have hm : f.offset + P.cellsOf f.type ≤ m := by
        have : ∀ {l : List Field} {a b : Nat}, contig P l a = some b → a ≤ b := by
          intro l
          induction l with
          | nil => intro a b h; simp [contig] at h; omega
          | cons x xs ih => intro a b h; simp only [contig] at h; split at h <;> first | (have := ih h; omega) | cases h
        exact this h
      have hbl : bs.length = P.cellsOf f.type := by
        rw [hb.length, List.length_take, List.length_drop]; omega
      refine ⟨bs ++ as, ?_, fun i f' hi => ?_⟩
      · have e : cs.drop f.offset = (cs.drop f.offset).take (P.cellsOf f.type) ++ cs.drop (f.offset + P.cellsOf f.type) := by
          rw [← List.drop_drop, List.take_append_drop]
        rw [e]; exact hb.append hr
      · cases i with
        | zero =>
          simp only [List.getElem?_cons_zero, Option.some.injEq] at hi
          subst hi
          refine ⟨Nat.le_refl _, hm, ?_⟩
          rw [Nat.sub_self, List.drop_zero, List.take_append_of_le_length (by omega), List.take_of_length_le (by omega)]
          exact hgb
        | succ i =>
          obtain ⟨h1, h2, h3⟩ := hg i f' (by simpa using hi)
          refine ⟨by omega, h2, ?_⟩
          have e : (bs ++ as).drop (f'.offset - f.offset) = as.drop (f'.offset - (f.offset + P.cellsOf f.type)) := by
            rw [List.drop_append, List.drop_eq_nil_of_le (by omega), List.nil_append]
            congr 1; omega
          rw [e]; exact h3
    · cases h

theorem array_rel {R : Ren} {sz : Nat} {G : List AV → Prop} : ∀ {n : Nat} {cs : List Value}, cs.length = n * sz → (∀ i < n, ∃ as, VRels R as ((cs.drop (i * sz)).take sz) ∧ G as) →
    ∃ as, VRels R as cs ∧ ∀ i < n, G ((as.drop (i * sz)).take sz)
  | 0, cs, h, _ => by
    simp at h
    subst h
    exact ⟨[], .nil, fun i h => by omega⟩
  | n + 1, cs, h, hp => by
    rw [Nat.add_mul, Nat.one_mul] at h
    obtain ⟨as, hr, hg⟩ := array_rel (n := n) (cs := cs.take (n * sz)) (sz := sz) (G := G) (R := R) (by rw [List.length_take]; omega) (fun i hi => by
      obtain ⟨bs, hb, hgb⟩ := hp i (by omega)
      refine ⟨bs, ?_, hgb⟩
      have hle : i * sz + sz ≤ n * sz := by rw [← Nat.succ_mul]; exact Nat.mul_le_mul_right _ hi
      have e : ((cs.take (n * sz)).drop (i * sz)).take sz = (cs.drop (i * sz)).take sz := by
        rw [List.drop_take, List.take_take]; congr 1; omega
      rw [e]; exact hb)
    obtain ⟨bs, hb, hgb⟩ := hp n (by omega)
    have hbl : bs.length = sz := by rw [hb.length, List.length_take, List.length_drop]; omega
    have hal : as.length = n * sz := by rw [hr.length, List.length_take]; omega
    refine ⟨as ++ bs, ?_, fun i hi => ?_⟩
    · have e : cs = cs.take (n * sz) ++ (cs.drop (n * sz)).take sz := by
        rw [List.take_of_length_le (l := cs.drop (n * sz)) (by rw [List.length_drop]; omega), List.take_append_drop]
      rw [e]; exact hr.append hb
    · by_cases hin : i < n
      · have hle : i * sz + sz ≤ n * sz := by rw [← Nat.succ_mul]; exact Nat.mul_le_mul_right _ hin
        have e : ((as ++ bs).drop (i * sz)).take sz = (as.drop (i * sz)).take sz := by
          rw [List.drop_append_of_le_length (by omega), List.take_append_of_le_length (by rw [List.length_drop]; omega)]
        rw [e]; exact hg i hin
      · have : i = n := by omega
        subst this
        have e : ((as ++ bs).drop (i * sz)).take sz = bs := by
          rw [← hal, List.drop_left, List.take_of_length_le (by omega)]
        rw [e]; exact hgb

theorem elemsAt_mk {R : Ren} {sz B : Nat} {G : AV → Prop} : ∀ {n o : Nat}, (∀ i < n, ∃ e : AV, e.cells.length = sz ∧ CellsAt R e.cells B (o + i * sz) ∧ G e) → ∃ es : List AV, es.length = n ∧ ElemsAt R es sz B o ∧ ∀ e ∈ es, G e
  | 0, o, _ => ⟨[], rfl, .nil _ _ _, fun _ h => by cases h⟩
  | n + 1, o, h => by
    obtain ⟨e, h1, h2, h3⟩ := h 0 (by omega)
    obtain ⟨es, k1, k2, k3⟩ := elemsAt_mk (n := n) (o := o + sz) (sz := sz) (B := B) (G := G) (R := R) (fun i hi => by
      obtain ⟨e, h1, h2, h3⟩ := h (i + 1) (by omega)
      refine ⟨e, h1, ?_, h3⟩
      rw [show o + sz + i * sz = o + (i + 1) * sz by rw [Nat.add_mul]; omega]; exact h2)
    refine ⟨e :: es, by simp [k1], .cons h1 (by simpa using h2) k2, fun x hx => ?_⟩
    rcases List.mem_cons.1 hx with rfl | hx
    · exact h3
    · exact k3 x hx

theorem add_none {a : Addr} (h : a.spot = none) (k : Nat) : a.add k = ⟨a.block, a.off + k, none⟩ := by
  unfold Addr.add
  split
  · rename_i e; subst e; cases a; simp_all
  · rfl

/-- **A value that a claim reads is an abstract one of its type.** -/
theorem trod_typed {H : Type} {enc : TypeId × Value → H} {W : World} {T : List TypeId} (hp : plainB P T = true) {b0 : Nat} {sp : Nat → Bool} {hd : Bool} : ∀ {n : Nat} {t : TypeId} {cs : List Value} {x : DataW H × List MemPlace}, t ∈ T →
    DataW.trod enc P W b0 sp hd n t cs = some x → ∃ as, VRels (Ren.still W) as cs ∧ TyC P n t as ∧ as.length = P.cellsOf t
  | 0, _, _, _, _, h => by simp [DataW.trod] at h
  | n + 1, t, cs, x, ht, h => by
    have hpt := plain_at hp ht
    unfold DataW.trod at h
    unfold TyC
    cases hu : P.underlying t with
    | none => simp [hu] at hpt
    | some desc =>
      rw [hu] at hpt h
      cases desc <;> simp only [Bool.false_eq_true] at hpt <;> simp only at h ⊢
      case bool =>
        have hsz : P.cellsOf t = 1 := by simpa using hpt
        split at h
        all_goals (try (exfalso; clear h; simp_all; done))
        · exact ⟨_, .cons (.bool _) .nil, ⟨_, rfl⟩, hsz.symm⟩
        · cases h
      case int k =>
        have hsz : P.cellsOf t = 1 := by simpa using hpt
        split at h
        all_goals (try (exfalso; clear h; simp_all; done))
        · rename_i heq
          cases heq
          split at h
          · rename_i hk
            obtain ⟨rfl, hw⟩ := hk
            exact ⟨_, .cons (.int _ _) .nil, ⟨_, rfl, hw⟩, hsz.symm⟩
          · cases h
        · cases h
      case string =>
        have hsz : P.cellsOf t = 1 := by simpa using hpt
        split at h
        all_goals (try (exfalso; clear h; simp_all; done))
        · split at h
          · rename_i hk
            exact ⟨_, .cons (.str _) .nil, ⟨_, rfl, hk⟩, hsz.symm⟩
          · cases h
        · cases h
      case slice e =>
        simp only [Bool.and_eq_true, List.contains_iff_mem, decide_eq_true_eq, beq_iff_eq] at hpt
        obtain ⟨⟨heT, hpos⟩, hsz⟩ := hpt
        split at h
        all_goals (try (exfalso; clear h; simp_all; done))
        · exact ⟨[.list [] true], .cons (.list0 _ _ _ (fun _ => rfl)) .nil, ⟨[], true, rfl, Nat.zero_le _, fun _ h => by cases h⟩, hsz.symm⟩
        · rename_i heq
          cases heq
          rename_i a len cap
          split at h
          · rename_i hc
            obtain ⟨_, hcap, hmax⟩ := hc
            simp only [Option.bind_eq_some_iff] at h
            obtain ⟨elems, hel, _⟩ := h
            have hlen := mapM_some_length hel
            simp only [List.length_range] at hlen
            have getEl : ∀ i < len, ∃ y vs, W.cells? b0 (a.add (i * P.cellsOf e)) (P.cellsOf e) = some vs ∧ DataW.trod enc P W b0 sp hd n e vs = some y := by
              intro i hi
              have := mapM_some_get hel i i (by simp [hi])
              rw [List.getElem?_eq_getElem (by omega)] at this
              simp only [Option.bind_eq_some_iff] at this
              obtain ⟨vs, h1, h2⟩ := this
              exact ⟨_, vs, h1, h2⟩
            have cellAt : ∀ {x : Addr} {vs : List Value}, W.cells? b0 x (P.cellsOf e) = some vs → vs.length = P.cellsOf e ∧ ∀ q v, vs[q]? = some v → W.cell? (x.add q) = some v := by
              intro x vs hvs
              unfold World.cells? at hvs
              split at hvs
              · have hvl := mapM_some_length hvs
                simp only [List.length_range] at hvl
                refine ⟨hvl, fun q v hq => ?_⟩
                have hql : q < P.cellsOf e := by rw [← hvl]; exact (List.getElem?_eq_some_iff.1 hq).1
                have := mapM_some_get hvs q q (by simp [hql])
                rw [hq] at this; exact this
              · cases hvs
            have spot : 0 < len → a.spot = none := by
              intro h0
              obtain ⟨_, vs, h1, _⟩ := getEl 0 h0
              obtain ⟨hl, hc⟩ := cellAt h1
              have := hc 0 _ (List.getElem?_eq_getElem (by omega))
              have e0 : (a.add (0 * P.cellsOf e)).add 0 = a := by simp [Addr.add]
              rw [e0] at this
              unfold World.cell? at this
              split at this
              · split at this
                · cases this
                · rename_i hs; simpa using hs
              · cases this
            -- each element
            have each : ∀ i < len, ∃ a' : AV, a'.cells.length = P.cellsOf e ∧ CellsAt (Ren.still W) a'.cells a.block (a.off + i * P.cellsOf e) ∧ (if aggB P e = true then ∃ ds, a' = .agg ds ∧ TyC P n e ds else TyC P n e [a']) := by
              intro i hi
              obtain ⟨y, vs, hvs, htr⟩ := getEl i hi
              obtain ⟨as, hr, hty, hal⟩ := trod_typed hp heT htr
              have hspot := spot (by omega)
              have hcells : CellsAt (Ren.still W) as a.block (a.off + i * P.cellsOf e) := CellsAt.of_get fun q b hb => by
                obtain ⟨v, hv, hrel⟩ := hr.get hb
                have := (cellAt hvs).2 q v hv
                rw [add_none hspot, add_none rfl] at this
                exact ⟨v, this, hrel⟩
              by_cases hag : aggB P e = true
              · exact ⟨.agg as, hal, hcells, by rw [if_pos hag]; exact ⟨as, rfl, hty⟩⟩
              · -- one cell
                have h1 : P.cellsOf e = 1 := by
                  have := plain_at hp heT
                  unfold aggB at hag
                  split at this <;> simp_all
                match as, hal, hr, hty, hcells with
                | [b], _, hr, hty, hcells =>
                  have hb : b.cells = [b] := by
                    cases n with
                    | zero => exact hty.elim
                    | succ n =>
                      unfold TyC at hty
                      unfold aggB at hag
                      split at hty
                      · obtain ⟨_, hh⟩ := hty; cases hh; rfl
                      · obtain ⟨_, hh, _⟩ := hty; cases hh; rfl
                      · obtain ⟨_, hh, _⟩ := hty; cases hh; rfl
                      · obtain ⟨_, _, hh, _⟩ := hty; cases hh; rfl
                      · simp_all
                      · simp_all
                      · exact hty.elim
                  exact ⟨b, by rw [hb]; simp [h1], by rw [hb]; exact hcells, by rw [if_neg hag]; exact hty⟩
                | [], hal, _, _, _ => simp [h1] at hal
                | _ :: _ :: _, hal, _, _, _ => simp [h1] at hal
            obtain ⟨es, hesl, hesAt, hesG⟩ := elemsAt_mk (R := Ren.still W) (B := a.block) (o := a.off) (sz := P.cellsOf e)
              (G := fun a' => if aggB P e = true then ∃ ds, a' = .agg ds ∧ TyC P n e ds else TyC P n e [a']) (n := len) (fun i hi => by
                obtain ⟨a', h1, h2, h4⟩ := each i hi
                exact ⟨a', h1, h2, h4⟩)
            refine ⟨[.list es false], .cons ?_ .nil, ⟨es, false, rfl, by omega, hesG⟩, hsz.symm⟩
            by_cases h0 : len = 0
            · subst h0
              have : es = [] := List.eq_nil_of_length_eq_zero hesl
              subst this
              exact .list0 _ _ _ (fun h => by cases h)
            · have hspot := spot (by omega)
              have ha : a = ⟨a.block, a.off, none⟩ := by cases a; simp_all
              rw [← hesl, ha]
              exact .list false (P.cellsOf e) cap hesAt (by omega) (fun h => by cases h)
          · cases h
        · cases h
      case struct fs =>
        simp only [Bool.and_eq_true, List.all_eq_true, List.contains_iff_mem, beq_iff_eq] at hpt
        obtain ⟨hfT, hcon⟩ := hpt
        · split at h
          · rename_i hcl
            simp only [Option.map_eq_some_iff] at h
            obtain ⟨xs, hxs, _⟩ := h
            obtain ⟨as, hr, hg⟩ := pieces_rel (R := Ren.still W) (G := TyC P n) hcon hcl (fun f hf => by
              obtain ⟨i, hi⟩ := List.mem_iff_getElem?.1 hf
              have := mapM_some_get hxs i f hi
              have hlen := mapM_some_length hxs
              have hil : i < xs.length := by rw [hlen]; exact (List.getElem?_eq_some_iff.1 hi).1
              rw [List.getElem?_eq_getElem hil] at this
              obtain ⟨as, h1, h2, _⟩ := trod_typed hp (hfT f hf) this
              exact ⟨as, h1, h2⟩)
            rw [List.drop_zero] at hr
            have hal : as.length = P.cellsOf t := by rw [hr.length, hcl]
            refine ⟨as, hr, ⟨hal, fun i f hi => ?_⟩, hal⟩
            have := (hg i f (by simpa using hi)).2.2
            simpa using this
          · cases h
      case array m e =>
        simp only [Bool.and_eq_true, List.contains_iff_mem, beq_iff_eq] at hpt
        obtain ⟨heT, hsz⟩ := hpt
        · split at h
          · rename_i hcl
            simp only [Option.map_eq_some_iff] at h
            obtain ⟨xs, hxs, _⟩ := h
            have hlen := mapM_some_length hxs
            simp only [List.length_range] at hlen
            obtain ⟨as, hr, hg⟩ := array_rel (R := Ren.still W) (G := TyC P n e) (sz := P.cellsOf e) (n := m) (cs := cs) (by rw [hcl, hsz]) (fun i hi => by
              have := mapM_some_get hxs i i (by simp [hi])
              rw [List.getElem?_eq_getElem (by omega)] at this
              obtain ⟨as, h1, h2, _⟩ := trod_typed hp heT this
              exact ⟨as, h1, h2⟩)
            have hal : as.length = P.cellsOf t := by rw [hr.length, hcl]
            exact ⟨as, hr, ⟨hal, hg⟩, hal⟩
          · cases h
end Go.Abs

/- A law that answers true for every abstract argument holds of every reading. -/
namespace Go.Abs
open Go.RowKit (Below)
open Go.ChangeShapes

variable {P : Program}

/-- A value of a type. -/
def TyV (P : Program) (t : TypeId) (a : AV) : Prop := ∃ n, if aggB P t = true then ∃ ds, a = .agg ds ∧ TyC P n t ds else TyC P n t [a]

theorem cell_one {W : World} {b0 : Nat} {t : TypeId} {v : Value} (ha : aggB P t = false) (h : Value.okWide P W .any b0 t v) : v.cells.toList = [v] := by
  cases v with
  | agg cs =>
    exfalso
    unfold Value.okWide at h
    unfold aggB at ha
    split at h
    · rename_i hu; simp [hu] at ha
    · rename_i hu; simp [hu] at ha
    · unfold Cell.okWide at h
      split at h
      all_goals first
        | (rename_i e; cases e; done)
        | (unfold Cell.ok at h; split at h <;> first | exact h.elim | (rename_i e; cases e; done) | simp_all)
  | _ => rfl

theorem arg_rel {H : Type} {enc : TypeId × Value → H} {W : World} {T : List TypeId} (hp : plainB P T = true) {b0 b1 : Nat} {sp : Nat → Bool} {hd : Bool} {t : TypeId} {v : Value} {d : DataW H} {ps : List MemPlace} (ht : t ∈ T)
    (hok : Value.okWide P W .any b1 t v) (h : DataW.Trod enc P W b0 sp hd t v d ps) : ∃ a, VRel (Ren.still W) a v ∧ TyV P t a := by
  obtain ⟨n, h⟩ := h
  obtain ⟨as, hr, hty, hl⟩ := trod_typed hp ht h
  cases hag : aggB P t with
  | true =>
    unfold Value.okWide at hok
    unfold aggB at hag
    have : ∃ cs, v = .agg cs := by
      split at hok
      · exact ⟨_, hok.choose_spec.1⟩
      · exact ⟨_, hok.choose_spec.1⟩
      · split at hag <;> simp_all
    obtain ⟨cs, rfl⟩ := this
    have hr' : VRels (Ren.still W) as cs.toList := hr
    have := VRel.agg hr'
    refine ⟨.agg as, by simpa using this, n, ?_⟩
    rw [if_pos (by unfold aggB; exact hag)]
    exact ⟨as, rfl, hty⟩
  | false =>
    rw [cell_one hag hok] at hr
    cases hr with
    | cons h1 h2 => cases h2 with
      | nil => exact ⟨_, h1, n, by rw [if_neg (by rw [hag]; simp)]; exact hty⟩

theorem args_rel {H : Type} {enc : TypeId × Value → H} {W : World} {T : List TypeId} (hp : plainB P T = true) {b0 b1 : Nat} {sp : Nat → Bool} {hd : Bool} : ∀ {ts : List TypeId} {vs : List Value} {ds : List (DataW H)} {ps : List MemPlace}, (∀ t ∈ ts, t ∈ T) →
    (∀ (j : Nat) t v, ts[j]? = some t → vs[j]? = some v → Value.okWide P W .any b1 t v) → DataW.TrodAll enc P W b0 sp hd ts vs ds ps →
    ∃ as, VRels (Ren.still W) as vs ∧ as.length = ts.length ∧ ds.length = ts.length ∧ ∀ (j : Nat) t a, ts[j]? = some t → as[j]? = some a → TyV P t a
  | [], [], [], ps, _, _, _ => ⟨[], .nil, rfl, rfl, fun j t a h => by simp at h⟩
  | t :: ts, v :: vs, d :: ds, ps, hT, hok, h => by
    obtain ⟨p, q, h1, h2, rfl⟩ := h
    obtain ⟨a, hr, hty⟩ := arg_rel hp (hT t (by simp)) (hok 0 t v rfl rfl) h1
    obtain ⟨as, k1, k2, k3, k4⟩ := args_rel hp (fun t ht => hT t (by simp [ht])) (fun j t v h1 h2 => hok (j + 1) t v (by simpa using h1) (by simpa using h2)) h2
    refine ⟨a :: as, .cons hr k1, by simp [k2], by simp [k3], fun j t' a' h1 h2 => ?_⟩
    cases j with
    | zero => simp at h1 h2; subst h1 h2; exact hty
    | succ j => exact k4 j t' a' (by simpa using h1) (by simpa using h2)
  | [], _ :: _, _, _, _, _, h => h.elim
  | [], [], _ :: _, _, _, _, h => h.elim
  | _ :: _, [], _, _, _, _, h => h.elim
  | _ :: _, _ :: _, [], _, _, _, h => h.elim

theorem trodAll_below {H : Type} {enc : TypeId × Value → H} (hl : laidOutB P = true) {W W' : World} (hb : Below W.heap.size W W') : ∀ {ts : List TypeId} {vs : List Value} {ds : List (DataW H)} {ps : List MemPlace},
    (∀ t ∈ ts, P.readableRec t = true ∧ t < P.types.size) → DataW.TrodAll enc P W 0 (fun _ => true) true ts vs ds ps → (∀ x ∈ ps, x.block < W.heap.size) →
    DataW.TrodAll enc P W' 0 (fun b => decide (b < W.heap.size)) true ts vs ds ps ∧ DataW.TrodAll enc P W' 0 (fun _ => true) true ts vs ds ps
  | [], [], [], ps, _, h, _ => ⟨h, h⟩
  | t :: ts, v :: vs, d :: ds, ps, hT, h, hlt => by
    obtain ⟨p, q, h1, h2, rfl⟩ := h
    obtain ⟨k1, k2⟩ := trodAll_below hl hb (fun t ht => hT t (by simp [ht])) h2 (fun x hx => hlt x (by simp [hx]))
    obtain ⟨r1, r2⟩ := hT t (by simp)
    have e1 := Go.RowKit.Below.trod hl r1 r2 h1 hb (fun x hx => hlt x (by simp [hx]))
    have e2 : DataW.Trod enc P W' 0 (fun _ => true) true t v d p := Go.WideElems.Trod_stays hl r1 r2 h1 (fun x hx => hb.same (hlt x (by simp [hx]))) (fun _ _ => rfl)
    exact ⟨⟨p, q, e1, k1, rfl⟩, ⟨p, q, e2, k2, rfl⟩⟩
  | [], _ :: _, _, _, _, h, _ => h.elim
  | [], [], _ :: _, _, _, h, _ => h.elim
  | _ :: _, [], _, _, _, h, _ => h.elim
  | _ :: _, _ :: _, [], _, _, h, _ => h.elim

/-- The law answers true whatever abstract arguments it gets. -/
def LawOk (P : Program) (cfg : Cfg) (f : Nat) (ts : List TypeId) : Prop :=
  ∀ as : List AV, as.length = ts.length → (∀ (j : Nat) t a, ts[j]? = some t → as[j]? = some a → TyV P t a) → ∃ k σ', callF P cfg k f as 0 [] = some (.bool true, σ')

theorem law_contract {cfg : Cfg} (hm : P.follows .mixedOrders = true) (hcfg : CfgOk P cfg) {f : Nat} {fn : Func} {T : List TypeId} (hp : plainB P T = true) (hl : laidOutB P = true) {tb : TypeId} (hres : fn.resultTypes = #[tb]) (htb : P.underlying tb = some .bool)
    (hT : ∀ t ∈ fn.params.toList, t ∈ T ∧ P.readableRec t = true ∧ t < P.types.size) (law : LawOk P cfg f fn.params.toList)
    {H : Type} {enc : TypeId × Value → H} {W : World} {b1 : Nat} {args : Array Value} {ds gs : List (DataW H)} {before : List MemPlace} {s : ChangeSpec} (hvars : s.vars = [])
    (hs : ∀ ds : List (DataW H), ds.length = fn.params.size → (s.fn H ds).results = [.lit (.bool true)] ∧ (s.fn H ds).args = ds ∧ (s.fn H ds).vars = [])
    (hval : ∀ (j : Nat) t v, fn.params[j]? = some t → args[j]? = some v → Value.okWide P W .any b1 t v)
    (hW : DataW.Whole enc P fn.params.toList s.vars false W args.toList ds gs before) (hG : GlobOk cfg (Ren.still W)) :
    Calls P f args W fun e W' => ∃ v, e = .returned v ∧ s.post enc P fn false true false false W args v W' := by
  have hlt := hW.lt
  obtain ⟨p, q, hA, hV, rfl, hfz, hnd⟩ := hW
  rw [hvars] at hV
  obtain ⟨rfl, rfl⟩ := trodVars_none hV
  simp only [List.append_nil] at hlt hfz
  obtain ⟨as, hr, hal, hdl, hty⟩ := args_rel hp (fun t ht => (hT t ht).1) (fun j t v h1 h2 => hval j t v (by simpa using h1) (by simpa using h2)) hA
  obtain ⟨k, σ', hc⟩ := law as hal hty
  have := call_ok hm hcfg k f as 0 [] (.bool true) σ' hc (Ren.still W) W W.heap.size args.toList (Inv.still W 0 W.heap.size) (Nat.le_refl _) (Nat.le_refl _) hG hr
  rw [Array.toArray_toList] at this
  refine this.mono ?_
  rintro e W' ⟨v, R', rfl, hst, hrel⟩
  cases hrel
  have hb := hst.below
  have hlt' : ∀ x ∈ p, x.block < W.heap.size := fun x hx => by simpa using hlt x hx
  obtain ⟨b1', _⟩ := trodAll_below (enc := enc) hl hb (fun t ht => (hT t ht).2) hA hlt'
  obtain ⟨s1, s2, s3⟩ := hs ds (by simpa using hdl)
  refine ⟨_, rfl, ds, [], p, [], p, [], ⟨p, [], hA, by rw [hvars]; exact rfl, by simp, by simpa using hfz, fun h => by cases h⟩, ?_, ?_, ?_, hb.frame _, fun h => by cases h⟩
  · rw [List.append_nil, s1, hres]
    exact trodAll_mk1 (Go.RowKit.shut_bool htb true)
  · rw [List.append_nil, s2]; exact b1'
  · rw [List.append_nil, s3, hvars]; exact rfl
end Go.Abs

/- The package variables that a row lists. -/
namespace Go.Abs

variable {P : Program}

mutual
def flatD {H : Type} : DataW H → List Value
  | .lit (.bool b) => [.bool b]
  | .lit (.int k n) => [.int k n]
  | .agg parts => flatDs parts
  | _ => []
def flatDs {H : Type} : List (DataW H) → List Value
  | [] => []
  | d :: ds => flatD d ++ flatDs ds
end

/-- Types of numbers alone. -/
def flatB (P : Program) (T : List TypeId) : Bool := plainB P T && T.all fun t => match P.underlying t with
  | some .string => false
  | some (.slice _) => false
  | _ => true

theorem pieces_flat {H : Type} {P : Program} : ∀ {fs : List Field} {xs : List (DataW H × List MemPlace)} {n m : Nat} {cs : List Value}, contig P fs n = some m → cs.length = m → xs.length = fs.length →
    (∀ (i : Nat) f x, fs[i]? = some f → xs[i]? = some x → (cs.drop f.offset).take (P.cellsOf f.type) = flatD x.1) → cs.drop n = flatDs (xs.map (·.1))
  | [], [], n, m, cs, h, hl, _, _ => by
    simp only [contig, Option.some.injEq] at h
    subst h
    rw [List.drop_eq_nil_of_le (by omega)]; rfl
  | f :: fs, x :: xs, n, m, cs, h, hl, hx, hp => by
    simp only [contig] at h
    split at h
    · rename_i ho
      subst ho
      have h1 := pieces_flat h hl (by simpa using hx) (fun i f' x' h1 h2 => hp (i + 1) f' x' (by simpa using h1) (by simpa using h2))
      have h2 := hp 0 f x rfl rfl
      have e : cs.drop f.offset = (cs.drop f.offset).take (P.cellsOf f.type) ++ cs.drop (f.offset + P.cellsOf f.type) := by
        rw [← List.drop_drop, List.take_append_drop]
      rw [e, h1, h2]
      rfl
    · cases h
  | [], _ :: _, _, _, _, _, _, h, _ => by simp at h
  | _ :: _, [], _, _, _, _, _, h, _ => by simp at h

theorem array_flat {H : Type} {sz : Nat} : ∀ {n : Nat} {xs : List (DataW H × List MemPlace)} {cs : List Value}, cs.length = n * sz → xs.length = n →
    (∀ i x, i < n → xs[i]? = some x → (cs.drop (i * sz)).take sz = flatD x.1) → cs = flatDs (xs.map (·.1))
  | 0, [], cs, h, _, _ => by simp at h; subst h; rfl
  | n + 1, x :: xs, cs, h, hx, hp => by
    rw [Nat.add_mul, Nat.one_mul] at h
    have h1 := array_flat (n := n) (xs := xs) (cs := cs.drop sz) (sz := sz) (by rw [List.length_drop]; omega) (by simpa using hx) (fun i x' hi hx' => by
      rw [List.drop_drop, show sz + i * sz = (i + 1) * sz by rw [Nat.add_mul]; omega]
      exact hp (i + 1) x' (by omega) (by simpa using hx'))
    have h2 := hp 0 x (by omega) rfl
    rw [Nat.zero_mul, List.drop_zero] at h2
    calc cs = cs.take sz ++ cs.drop sz := (List.take_append_drop _ _).symm
      _ = flatD x.1 ++ flatDs (xs.map (·.1)) := by rw [h2, h1]
  | 0, _ :: _, _, _, h, _ => by simp at h
  | _ + 1, [], _, _, h, _ => by simp at h

theorem trod_flat {H : Type} {enc : TypeId × Value → H} {W : World} {T : List TypeId} (hp : flatB P T = true) {b0 : Nat} {sp : Nat → Bool} {hd : Bool} : ∀ {n : Nat} {t : TypeId} {cs : List Value} {x : DataW H × List MemPlace}, t ∈ T →
    DataW.trod enc P W b0 sp hd n t cs = some x → cs = flatD x.1
  | 0, _, _, _, _, h => by simp [DataW.trod] at h
  | n + 1, t, cs, x, ht, h => by
    have hp' := hp
    simp only [flatB, Bool.and_eq_true, List.all_eq_true] at hp
    have hpt := plain_at hp.1 ht
    have hft := hp.2 t ht
    unfold DataW.trod at h
    cases hu : P.underlying t with
    | none => simp [hu] at hpt
    | some desc =>
      rw [hu] at hpt h hft
      cases desc <;> simp only [Bool.false_eq_true] at hpt hft <;> simp only at h ⊢
      case bool =>
        split at h
        all_goals (try (exfalso; clear h; simp_all; done))
        · cases h; rfl
        · cases h
      case int k =>
        split at h
        all_goals (try (exfalso; clear h; simp_all; done))
        · rename_i heq
          cases heq
          split at h
          · rename_i hk; obtain ⟨rfl, _⟩ := hk; cases h; rfl
          · cases h
        · cases h
      case struct fs =>
        simp only [Bool.and_eq_true, List.all_eq_true, List.contains_iff_mem, beq_iff_eq] at hpt
        obtain ⟨hfT, hcon⟩ := hpt
        split at h
        · rename_i hcl
          simp only [Option.map_eq_some_iff] at h
          obtain ⟨xs, hxs, rfl⟩ := h
          have hlen := mapM_some_length hxs
          have := pieces_flat (xs := xs) hcon hcl hlen (fun i f x hf hx => by
            have := mapM_some_get hxs i f hf
            rw [hx] at this
            exact trod_flat hp' (hfT f (List.mem_of_getElem? hf)) this)
          rw [List.drop_zero] at this
          exact this
        · cases h
      case array m e =>
        simp only [Bool.and_eq_true, List.contains_iff_mem, beq_iff_eq] at hpt
        obtain ⟨heT, hsz⟩ := hpt
        split at h
        · rename_i hcl
          simp only [Option.map_eq_some_iff] at h
          obtain ⟨xs, hxs, rfl⟩ := h
          have hlen := mapM_some_length hxs
          simp only [List.length_range] at hlen
          exact array_flat (n := m) (sz := P.cellsOf e) (by rw [hcl, hsz]) hlen (fun i x hi hx => by
            have := mapM_some_get hxs i i (by simp [hi])
            rw [hx] at this
            exact trod_flat hp' heT this)
        · cases h

theorem laid_at {W : World} : ∀ {laid : List (String × DataW Unit)} {ps : List MemPlace}, DataW.LaidVars P W laid ps → ∀ {n : String} {d : DataW Unit}, (n, d) ∈ laid →
    ∃ g t cs fuel p, P.globalNamed n = some g ∧ (P.globals[g]?).map (·.type) = some t ∧ W.var? P n = some cs ∧ DataW.trod (fun _ => ()) P W 0 (fun _ => true) false fuel t cs.toList = some (d, p)
  | [], _, _, _, _, h => by cases h
  | (n', d') :: r, ps, h, n, d, hm => by
    obtain ⟨g, t, cs, fuel, p, q, h1, h2, h3, h4, h5, _⟩ := h
    rcases List.mem_cons.1 hm with e | hm
    · cases e; exact ⟨g, t, cs, fuel, p, h1, h2, h3, h4⟩
    · exact laid_at h5 hm

theorem abs_rel {R : Ren} : ∀ {vs : List Value} {as : List AV}, absL vs = some as → VRels R as vs
  | [], as, h => by simp [absL] at h; subst h; exact .nil
  | v :: vs, as, h => by
    simp only [absL] at h
    cases e1 : absS v with
    | none => simp [e1] at h
    | some a => cases e2 : absL vs with
      | none => simp [e1, e2] at h
      | some bs =>
        simp [e1, e2] at h
        subst h
        exact .cons (absC_rel (by cases v <;> simp_all [absC, absS])) (abs_rel e2)

/-- **What a row lists is what the interpreter's variables hold.** -/
theorem glob_ok {cfg : Cfg} {T : List TypeId} (hp : flatB P T = true) {laid : List (String × DataW Unit)} {W : World} (hh : (laid.filter fun x => x.2.handleName?.isSome) = []) (h : laidMetH P laid W)
    (hc : ∀ g cs, cfg.glob g = some cs → ∃ n d t, (n, d) ∈ laid ∧ P.globalNamed n = some g ∧ (P.globals[g]?).map (·.type) = some t ∧ t ∈ T ∧ absL (flatD d) = some cs ∧ AV.frees cs = true) : GlobOk cfg (Ren.still W) := by
  intro g cs hg
  obtain ⟨n, d, t, hm, h1, h2, h3, h4, h5⟩ := hc g cs hg
  unfold laidMetH at h
  rw [hh] at h
  obtain ⟨ps, hl, _⟩ := h
  obtain ⟨g', t', vs, fuel, p, k1, k2, k3, k4⟩ := laid_at hl hm
  obtain rfl := Option.some.inj (h1.symm.trans k1)
  obtain rfl := Option.some.inj (h2.symm.trans k2)
  have e := trod_flat hp h3 k4
  simp only at e
  rw [← e] at h4
  have hr := abs_rel (R := Ren.still W) h4
  refine ⟨CellsAt.of_get fun i b hb => ?_, h5⟩
  obtain ⟨v, hv, hrel⟩ := hr.get hb
  refine ⟨v, ?_, hrel⟩
  unfold World.var? at k3
  rw [k1] at k3
  simp only [Option.bind_some] at k3
  split at k3
  · rename_i cs' _ _ hheap
    cases k3
    show W.cell? ⟨g, 0 + i, none⟩ = some v
    simp only [World.cell?, Nat.zero_add, hheap, Option.isSome_none, Bool.false_eq_true, if_false]
    simpa using hv
  · cases k3
end Go.Abs

/- slices.Clone, from its body. -/
namespace Go.Abs
open Go.RowKit (Below)

variable {P : Program}

theorem wpList_val {ops : Array Oper} {Q : Exit → Act → World → Prop} {o : Oper} {rest : List Oper} {a : Act} {w w' : World} {v : Value} (hg : o.guard = none) (h : (execOp a.eval o).run P w = .ok (.value v) w')
    (k : wpList P ops Q rest (a.put o.dst v) w') : wpList P ops Q (o :: rest) a w := by
  unfold wpList
  rw [if_pos (by unfold Region.wanted; rw [hg])]
  left
  unfold Oper.wp
  rw [h]
  exact k

theorem slice_value {R : Ren} {σ : Sto} {n : Nat} {x : AV} {v : Value} {xs : List AV} (h : VRel R x v) (hx : elemsA σ n x = some xs) : ∃ p l c, v = .slice p l c := by
  cases h <;> simp [elemsA] at hx <;> exact ⟨_, _, _, rfl⟩

/-- The body of slices.Clone at a slice type t. -/
def cloneBody (t b : TypeId) (i0 i1 i2 i3 : Nat) (p : Nat → String) (e : Nat → Array Edge) : Code :=
  .seq (.region i0 #[⟨some 2, .assign (.const (.slice none 0 0)), t, p 0, e 0, none⟩] false)
    (.seq (.seq (.region i1 #[⟨some 3, .move (.tmp 0), t, p 1, e 1, none⟩, ⟨some 4, .binOp .eql t (.tmp 3) (.const (.slice none 0 0)) t, b, p 2, e 2, none⟩] false)
        (.cond (.tmp 4) (.seq (.region i2 #[⟨some 2, .assign (.const (.slice none 0 0)), t, p 3, e 3, none⟩] false) .ret) .skip))
      (.seq (.region i3 #[⟨some 5, .buildSlice t 0 #[], t, p 4, e 4, none⟩, ⟨some 6, .move (.tmp 0), t, p 5, e 5, none⟩,
        ⟨some 7, .call ⟨.builtin .append, #[.tmp 5, .tmp 6], #[t, t]⟩, t, p 6, e 6, none⟩, ⟨some 2, .assign (.tmp 7), t, p 7, e 7, none⟩] false) .ret))

/-- The rest of it, by the interpreter. -/
theorem clone_tail {cfg : Cfg} {σ σ' : Sto} {lo : Nat} {t e size bytes : Nat} {z x r y1 y2 y3 y4 : AV} (hu : P.underlying t = some (.slice e)) (hs : szOf P e = some size) (hb : byOf P e = some bytes) (hz : zeroA P e = some z) (hzl : z.cells.length = size) (hp : 0 < size) (hpb : 0 < bytes)
    (h : cloneA P σ e [x] = some (r, σ')) (b : TypeId) (p : Nat → String) (ed : Nat → Array Edge) (ops : Array Oper) :
    opsA P cfg (fun _ _ _ _ => none) 0 lo ops [⟨some 5, .buildSlice t 0 #[], t, p 4, ed 4, none⟩, ⟨some 6, .move (.tmp 0), t, p 5, ed 5, none⟩,
        ⟨some 7, .call ⟨.builtin .append, #[.tmp 5, .tmp 6], #[t, t]⟩, t, p 6, ed 6, none⟩, ⟨some 2, .assign (.tmp 7), t, p 7, ed 7, none⟩]
      [x, undefA, y1, y2, y3, undefA, undefA, undefA] σ = some ([x, undefA, r, y2, y3, .list [] true, x, r], σ') := by
  simp only [cloneA, hs, hb] at h
  cases hx : elemsA σ size x with
  | none => simp [hx] at h
  | some xs =>
    simp only [hx] at h
    have happ : appendA P lo σ #[t, t] (.list [] true) x = some (r, σ') := by
      simp only [appendA, hu, hs, hb, hz, hx]
      simp [hu, hs, hb, hz, hzl, hp, hpb, hx]
      split at h
      · rename_i he
        cases h
        have : xs = [] := by simpa using he
        subst this
        simp
      · rename_i he
        split at h
        · rename_i hc
          cases h
          have hne : xs ≠ [] := by simpa using he
          have h2 := hc.2.1
          simp at h2
          refine ⟨h2, ?_⟩
          rw [if_neg (by simpa using hne)]
          simp [hc.2.2]
        · cases h
    have hbs : buildSliceA P t 0 [] = some (.list [] true) := by
      simp [buildSliceA, hu, hs, hz, hzl, hp, setsA]
    simp [opsA, wantedA, opA, opBuildSlice, partsA, evsA, hbs, sameA, putA, evA, callA, happ]

theorem run_eql_nil {t e : TypeId} (hu : P.underlying t = some (.slice e)) (p : Option Addr) (l c : Nat) (w : World) (dst : Option Tmp) (b : TypeId) (pos : String) (ed : Array Edge) {a : Act} (ha : a.eval (.tmp 3) = .slice p l c) :
    (execOp a.eval ⟨dst, .binOp .eql t (.tmp 3) (.const (.slice none 0 0)) t, b, pos, ed, none⟩).run P w = .ok (.value (.bool p.isNone)) w := by
  have hc : a.eval (.const (.slice none 0 0)) = .slice none 0 0 := rfl
  simp only [execOp, ha, hc]
  have he : (Op.equal t (.slice p l c) (.slice none 0 0)).run P w = .ok p.isNone w := by
    unfold Op.equal Op.maxDepth Op.equalIn
    simp only [Sem.run_bind, run_under hu, Result.andThen_ok]
    cases p <;> rfl
  have hg : (eqGuard .eql t (.tmp 3) (.const (.slice none 0 0)) (.slice p l c) (.slice none 0 0)).run P w = .ok () w := by rfl
  simp only [Sem.run_bind, hg, Result.andThen_ok, binOp, he, Sem.run_pure]

/-- **slices.Clone.** -/
theorem clone_ok {cfg : Cfg} (hcfg : CfgOk P cfg) {f t b e size bytes : Nat} {z : AV} {fn : Func} {i0 i1 i2 i3 : Nat} {p : Nat → String} {ed : Nat → Array Edge} (hf : P.funcs[f]? = some fn) (hbody : fn.body = some (cloneBody t b i0 i1 i2 i3 p ed)) (hn : fn.ntmps = 8) (hr : fn.results = #[.tmp 2])
    (hu : P.underlying t = some (.slice e)) (hs : szOf P e = some size) (hb : byOf P e = some bytes) (hz : zeroA P e = some z) (hzl : z.cells.length = size) (hp : 0 < size) (hpb : 0 < bytes)
    {args : List AV} {r : AV} {σ σ' : Sto} (h : cloneA P σ e args = some (r, σ')) {R : Ren} {w : World} {lo base : Nat} {vs : List Value} (I : Inv R σ w lo base) (hbase : base ≤ w.heap.size) (hlo : lo ≤ σ.length) (hg : GlobOk cfg R) (hv : VRels R args vs) :
    Calls P f vs.toArray w (Post R σ w lo base r σ') := by
  obtain ⟨x, rfl⟩ : ∃ x, args = [x] := by
    unfold cloneA at h
    split at h
    · exact ⟨_, rfl⟩
    · cases h
  cases hv with
  | cons h1 h2 => cases h2 with
    | nil =>
      rename_i v
      have hx : ∃ xs, elemsA σ size x = some xs := by
        simp only [cloneA, hs, hb] at h
        cases hx : elemsA σ size x with
        | none => simp [hx] at h
        | some xs => exact ⟨xs, rfl⟩
      obtain ⟨xs, hx⟩ := hx
      obtain ⟨q, l, c, rfl⟩ := slice_value h1 hx
      refine calls_of_wp hf hbody ?_
      have e0 : ([Value.slice q l c].toArray ++ Array.replicate (fn.ntmps - [Value.slice q l c].toArray.size) undef) = #[.slice q l c, undef, undef, undef, undef, undef, undef, undef] := by
        rw [hn]; rfl
      rw [e0]
      unfold cloneBody
      refine wp_seq (wp_region_list (wpList_val rfl rfl ?_))
      unfold wpList
      refine wp_seq (wp_seq (wp_region_list (wpList_val rfl rfl (wpList_val rfl (run_eql_nil hu q l c w _ _ _ _ rfl) ?_))))
      unfold wpList
      show (Code.cond _ _ _).wp P _ _ w
      have post : ∀ (a' : Act) (w' : World) (R' : Ren) (v : Value), a'.defers = [] → a'.tmps.getD 2 undef = v → Step R σ w lo base R' σ' w' → VRel R' r v → bodyPost P fn (Post R σ w lo base r σ') .ret a' w' := by
        intro a' w' R' v hd ht hst hrel
        refine ⟨hd, v, ?_, v, R', rfl, hst, hrel⟩
        unfold results
        rw [hr]
        simp only [Array.mapM_eq_mapM_toList, List.mapM_cons, List.mapM_nil]
        rw [ht]
        rfl
      cases q with
      | none =>
        -- nil: nothing is in it
        have hnil : xs = [] ∧ r = .list [] true ∧ σ' = σ := by
          have hxs : xs = [] := by
            cases h1 with
            | list0 => simp [elemsA] at hx; exact hx
            | opq => simp [elemsA] at hx
            | sl off len _ e' hl hpp =>
              simp only [elemsA] at hx
              split at hx
              · split at hx
                · rename_i es g' sz fz hσ hc
                  cases hx
                  have hrr := (I.rows _ _ _ _ _ hσ _ e').2
                  obtain ⟨q1, q2, q3, _⟩ := hrr
                  apply List.eq_nil_of_length_eq_zero
                  rw [List.length_take, List.length_drop]
                  apply Decidable.byContradiction
                  intro hne
                  have := hpp (by omega)
                  cases this
                · cases hx
              · cases hx
            | slOld off len _ cap e' hlt =>
              simp only [elemsA] at hx
              split at hx
              · split at hx
                · rename_i es g' sz fz hσ hc
                  have := (I.rows _ _ _ _ _ hσ _ e').1
                  omega
                · cases hx
              · cases hx
            | bsl off len cap _ e' hl hpp =>
              simp only [elemsA] at hx
              split at hx
              · split at hx
                · cases hx
                  apply List.eq_nil_of_length_eq_zero
                  rw [List.length_take, List.length_drop]
                  apply Decidable.byContradiction
                  intro hne
                  have := hpp (by omega)
                  cases this
                · cases hx
              · cases hx
          subst hxs
          simp [cloneA, hs, hb, hx] at h
          exact ⟨rfl, h.1.symm, h.2.symm⟩
        obtain ⟨_, rfl, rfl⟩ := hnil
        refine wp_cond_true rfl (wp_seq (wp_region_list (wpList_val rfl rfl ?_)))
        unfold wpList
        exact wp_ret (post _ w R (.slice none 0 0) rfl rfl (.refl I) (.list0 _ _ _ (fun _ => rfl)))
      | some addr =>
        refine wp_cond_false rfl (wp_skip ?_)
        have hops := clone_tail (cfg := cfg) (lo := lo) (y1 := .opq) (y2 := .opq) (y3 := .opq) (y4 := .opq) hu hs hb hz hzl hp hpb h b p ed
          #[⟨some 5, .buildSlice t 0 #[], t, p 4, ed 4, none⟩, ⟨some 6, .move (.tmp 0), t, p 5, ed 5, none⟩, ⟨some 7, .call ⟨.builtin .append, #[.tmp 5, .tmp 6], #[t, t]⟩, t, p 6, ed 6, none⟩, ⟨some 2, .assign (.tmp 7), t, p 7, ed 7, none⟩]
        refine wp_seq (wp_region_list (ops_ok (R := R) hcfg (fun _ _ _ _ _ _ hh => by cases hh) (fun _ _ _ _ _ hh => by cases hh) trivial hops I hbase hlo hg ?_ rfl ?_))
        · exact .cons h1 (.cons (.tuple .nil) (.cons (.opq _) (.cons (.opq _) (.cons (.opq _) (.cons (.tuple .nil) (.cons (.tuple .nil) (.cons (.tuple .nil) .nil)))))))
        · intro a' w' R' hst hf' hd _
          have h2 := hf'.get (i := 2) rfl
          obtain ⟨u, hu', hrel⟩ := h2
          refine wp_ret (post a' w' R' u hd ?_ hst hrel)
          have : a'.tmps[2]? = some u := by simpa using hu'
          simp [this]
end Go.Abs

/- What a program must show for the interpreter. -/
namespace Go.Abs

variable {P : Program}

def IsClone (P : Program) (f e : Nat) : Prop := ∃ (fn : Func) (t b size bytes : Nat) (z : AV) (i0 i1 i2 i3 : Nat) (p : Nat → String) (ed : Nat → Array Edge), P.funcs[f]? = some fn ∧ fn.body = some (cloneBody t b i0 i1 i2 i3 p ed) ∧ fn.ntmps = 8 ∧ fn.results = #[.tmp 2] ∧
  P.underlying t = some (.slice e) ∧ szOf P e = some size ∧ byOf P e = some bytes ∧ zeroA P e = some z ∧ z.cells.length = size ∧ 0 < size ∧ 0 < bytes

theorem cfg_ok {cfg : Cfg} (names : ∀ (f : Nat) fn, P.funcs[f]? = some fn → fn.name ≠ "runtime.NumGoroutine") (hext : ∀ f, cfg.ext f = none) (hclone : ∀ f e, cfg.clone f = some e → IsClone P f e) : CfgOk P cfg := by
  have base : CfgOk P ⟨fun _ => none, fun _ _ => .reader, fun _ => none, fun _ => none, fun _ => false, fun _ _ => []⟩ :=
    ⟨fun _ _ h => (by cases h), fun _ _ h => (by cases h), fun _ _ _ _ => ⟨rfl, rfl⟩, names, fun _ h => (by rcases h with h | h <;> cases h)⟩
  refine ⟨fun f e h => (by rw [hext f] at h; cases h), ?_, ?_, names, ?_⟩
  · intro f T hT args r σ σ' h R w lo base' vs I hb hlo hv
    obtain ⟨fn, t, b, size, bytes, z, i0, i1, i2, i3, p, ed, h1, h2, h3, h4, h5, h6, h7, h8, h9, h10, h11⟩ := hclone f T hT
    exact clone_ok base h1 h2 h3 h4 h5 h6 h7 h8 h9 h10 h11 h I hb hlo (fun g cs h => (by cases h)) hv
  · intro f fn hfn hb
    refine ⟨hext f, ?_⟩
    cases hc : cfg.clone f with
    | none => rfl
    | some e =>
      obtain ⟨fn', t, b, size, bytes, z, i0, i1, i2, i3, p, ed, h1, h2, _⟩ := hclone f e hc
      rw [hfn] at h1; cases h1
      rw [hb] at h2; cases h2
  · intro f h
    rcases h with h | h
    · rw [hext f] at h; cases h
    · cases hc : cfg.clone f with
      | none => rw [hc] at h; cases h
      | some e =>
        obtain ⟨fn, t, b, size, bytes, z, i0, i1, i2, i3, p, ed, h1, h2, _⟩ := hclone f e hc
        exact ⟨fn, h1, names f fn h1, by rw [h2]; rfl⟩
end Go.Abs

/- From some fuel on. -/
namespace Go.Abs

variable {P : Program}

def Ev (p : Nat → Prop) : Prop := ∃ K, ∀ k, K ≤ k → p k

theorem Ev.of {p : Nat → Prop} (n : Nat) (h : ∀ k, p (k + n)) : Ev p := ⟨n, fun k hk => by
  obtain ⟨m, rfl⟩ : ∃ m, k = m + n := ⟨k - n, by omega⟩
  exact h m⟩
theorem Ev.and {p q : Nat → Prop} (h : Ev p) (g : Ev q) : Ev fun k => p k ∧ q k := by
  obtain ⟨K, h⟩ := h
  obtain ⟨L, g⟩ := g
  exact ⟨K + L, fun k hk => ⟨h k (by omega), g k (by omega)⟩⟩
theorem Ev.mono {p q : Nat → Prop} (h : Ev p) (n : Nat) (g : ∀ k, p k → q (k + n)) : Ev q := by
  obtain ⟨K, h⟩ := h
  exact ⟨K + n, fun k hk => by
    obtain ⟨m, rfl⟩ : ∃ m, k = m + n := ⟨k - n, by omega⟩
    exact g m (h m (by omega))⟩
theorem Ev.shift {p : Nat → Prop} (n : Nat) (h : Ev p) : Ev fun k => p (k + n) := by
  obtain ⟨K, h⟩ := h
  exact ⟨K, fun k hk => h _ (by omega)⟩

/-- A call answers, from some fuel on. -/
def Ans (P : Program) (cfg : Cfg) (f : Nat) (args : List AV) (lo : Nat) (σ : Sto) (r : AV) (σ' : Sto) : Prop := Ev fun k => callF P cfg k f args lo σ = some (r, σ')

end Go.Abs

/- Operations on scalars, for simp. -/
namespace Go.Abs

variable {P : Program}

theorem nilEqA_left {t : TypeId} {a b : AV} (h : a.isPtr = false) (h1 : a ≠ .nilp) (h2 : a ≠ .nilIface) (h3 : ∀ t v, a ≠ .iface t v) : nilEqA P t a b = false := by
  unfold nilEqA
  split <;> simp_all [AV.isPtr]

@[simp] theorem nilEqA_int {t : TypeId} {k : IntKind} {n : Int} {b : AV} : nilEqA P t (.int k n) b = false := nilEqA_left rfl (by simp) (by simp) (by simp)
@[simp] theorem nilEqA_bool {t : TypeId} {x : Bool} {b : AV} : nilEqA P t (.bool x) b = false := nilEqA_left rfl (by simp) (by simp) (by simp)
@[simp] theorem nilEqA_str {t : TypeId} {x : ByteArray} {b : AV} : nilEqA P t (.str x) b = false := nilEqA_left rfl (by simp) (by simp) (by simp)
@[simp] theorem nilEqA_agg {t : TypeId} {x : List AV} {b : AV} : nilEqA P t (.agg x) b = false := nilEqA_left rfl (by simp) (by simp) (by simp)

section
variable {t : TypeId} {x y : Operand} {k : IntKind} (a b : Int)
@[simp] theorem binA_geq : binA P .geq t x y (.int k a) (.int k b) = some (.bool (decide (a ≥ b))) := by
  simp only [binA, nilEqA_int, AV.conc, reduceCtorEq, false_and, Bool.false_eq_true, and_false, if_false]
  cases k <;> rfl
@[simp] theorem binA_leq : binA P .leq t x y (.int k a) (.int k b) = some (.bool (decide (a ≤ b))) := by
  simp only [binA, nilEqA_int, AV.conc, reduceCtorEq, false_and, Bool.false_eq_true, and_false, if_false]
  cases k <;> rfl
@[simp] theorem binA_lss : binA P .lss t x y (.int k a) (.int k b) = some (.bool (decide (a < b))) := by
  simp only [binA, nilEqA_int, AV.conc, reduceCtorEq, false_and, Bool.false_eq_true, and_false, if_false]
  cases k <;> rfl
@[simp] theorem binA_gtr : binA P .gtr t x y (.int k a) (.int k b) = some (.bool (decide (a > b))) := by
  simp only [binA, nilEqA_int, AV.conc, reduceCtorEq, false_and, Bool.false_eq_true, and_false, if_false]
  cases k <;> rfl
@[simp] theorem binA_eql : binA P .eql t x y (.int k a) (.int k b) = some (.bool (a == b)) := by
  simp only [binA, nilEqA_int, AV.conc, reduceCtorEq, false_and, Bool.false_eq_true, and_false, if_false]
  cases k <;> rfl
@[simp] theorem binA_neq : binA P .neq t x y (.int k a) (.int k b) = some (.bool (a != b)) := by
  simp only [binA, nilEqA_int, AV.conc, reduceCtorEq, false_and, Bool.false_eq_true, and_false, if_false]
  cases k <;> rfl
@[simp] theorem binA_add : binA P .add t x y (.int k a) (.int k b) = some (.int k (k.wrap (a + b))) := by
  simp only [binA, nilEqA_int, AV.conc, reduceCtorEq, false_and, Bool.false_eq_true, and_false, if_false]
  cases k <;> rfl
@[simp] theorem binA_sub : binA P .sub t x y (.int k a) (.int k b) = some (.int k (k.wrap (a - b))) := by
  simp only [binA, nilEqA_int, AV.conc, reduceCtorEq, false_and, Bool.false_eq_true, and_false, if_false]
  cases k <;> rfl
end
@[simp] theorem unA_not (b : Bool) : unA P .not (.bool b) = some (.bool (!b)) := by cases b <;> rfl
end Go.Abs

/- Walking through a body: straight pieces by the kernel, calls by their specs, conditions by cases. -/
namespace Go.Abs

variable {P : Program} {cfg : Cfg} {fn lo : Nat}

def nocall : Caller := fun _ _ _ _ => none

/-- More calls answered: the same and more. -/
def CallLe (c d : Caller) : Prop := ∀ f args lo σ x, c f args lo σ = some x → d f args lo σ = some x

theorem nocall_le (d : Caller) : CallLe nocall d := fun _ _ _ _ _ h => by cases h

theorem enterA_le {c d : Caller} (h : CallLe c d) {caller lo f : Nat} {σ : Sto} {args : List AV} {x : AV × Sto} (e : enterA P cfg c caller lo σ f args = some x) : enterA P cfg d caller lo σ f args = some x := by
  unfold enterA at e ⊢
  split
  · rename_i hc; rw [hc] at e; exact e
  · rename_i hc; rw [hc] at e; simp only at e
    split
    · rename_i he; rw [he] at e; exact e
    · rename_i he; rw [he] at e; simp only at e
      split
      · rename_i hm; rw [hm] at e; exact h _ _ _ _ _ e
      · rename_i hm; rw [hm] at e; simp only at e
        split
        · rename_i hs; rw [hs] at e; simp only at e
          unfold readW at e ⊢
          split at e
          · rename_i hfa
            rw [if_pos hfa]
            cases hcc : c f _ _ _ with
            | none => rw [hcc] at e; cases e
            | some q => rw [h _ _ _ _ _ hcc]; rw [hcc] at e; exact e
          · cases e
        · rename_i hs; rw [hs] at e; cases e
      · rename_i hm; rw [hm] at e; simp only at e
        split
        · rename_i hs; rw [hs] at e; exact h _ _ _ _ _ e
        · rename_i hs; rw [hs] at e; cases e
      · rename_i hm; rw [hm] at e; simp only at e
        split
        · rename_i hs; rw [hs] at e; simp only at e
          cases hcc : c f _ _ _ with
          | none => rw [hcc] at e; cases e
          | some q => rw [h _ _ _ _ _ hcc]; rw [hcc] at e; exact e
        · rename_i hs; rw [hs] at e; cases e

theorem opA_le {c d : Caller} (h : CallLe c d) {caller lo : Nat} {fr : List AV} {σ : Sto} {o : Op} {x : AV × Sto} (e : opA P cfg c caller lo fr σ o = some x) : opA P cfg d caller lo fr σ o = some x := by
  cases o
  case call cl =>
    simp only [opA] at e ⊢
    unfold callA at e ⊢
    split
    · rename_i ha; rw [ha] at e; cases e
    · rename_i args ha
      rw [ha] at e
      simp only at e
      split
      · rename_i b hb; rw [hb] at e; exact e
      · rename_i x' hx
        rw [hx] at e; simp only at e
        split
        · rename_i he; rw [he] at e; exact enterA_le h e
        · rename_i hn; split at e
          · rename_i he; exact absurd he (hn _ _ _)
          · cases e
      · rename_i hx; rw [hx] at e; cases e
  all_goals exact e

theorem opsA_le {c d : Caller} (h : CallLe c d) {caller lo : Nat} {ops : Array Oper} : ∀ {l : List Oper} {fr : List AV} {σ : Sto} {x : List AV × Sto}, opsA P cfg c caller lo ops l fr σ = some x → opsA P cfg d caller lo ops l fr σ = some x
  | [], _, _, _, e => e
  | o :: rest, fr, σ, x, e => by
    simp only [opsA] at e ⊢
    split at e
    · rename_i hw
      split at e
      · rename_i ho
        simp only [opA_le h ho]
        exact opsA_le h e
      · cases e
    · exact opsA_le h e
    · cases e

theorem opsA_append {c : Caller} {caller lo : Nat} {ops : Array Oper} : ∀ {l l' : List Oper} {fr : List AV} {σ : Sto}, opsA P cfg c caller lo ops (l ++ l') fr σ = (match opsA P cfg c caller lo ops l fr σ with | some (fr', σ') => opsA P cfg c caller lo ops l' fr' σ' | none => none)
  | [], _, _, _ => rfl
  | o :: rest, l', fr, σ => by
    simp only [List.cons_append, opsA]
    split
    · split
      · exact opsA_append
      · rfl
    · exact opsA_append
    · rfl

/-- The operations go through, and end so. -/
def OK (P : Program) (cfg : Cfg) (c : Caller) (fn lo : Nat) (ops : Array Oper) (l : List Oper) (fr : List AV) (σ : Sto) (Q : List AV → Sto → Prop) : Prop := ∃ fr' σ', opsA P cfg c fn lo ops l fr σ = some (fr', σ') ∧ Q fr' σ'

/-- The code goes through, and ends so. -/
def X (P : Program) (cfg : Cfg) (k fn lo : Nat) (c : Code) (fr : List AV) (σ : Sto) (Q : XE → List AV → Sto → Prop) : Prop := ∃ x fr' σ', exec P cfg k fn lo c fr σ = some (x, fr', σ') ∧ Q x fr' σ'

section
variable {c : Caller} {ops : Array Oper} {l : List Oper} {fr : List AV} {σ : Sto} {Q : List AV → Sto → Prop}

def segA (P : Program) (cfg : Cfg) (fn lo : Nat) (ops : Array Oper) (l : List Oper) (fr : List AV) (σ : Sto) : List AV × Sto := (opsA P cfg nocall fn lo ops l fr σ).getD ([], [])

theorem OK.nil (h : Q fr σ) : OK P cfg c fn lo ops [] fr σ Q := ⟨fr, σ, rfl, h⟩

/-- A straight piece. -/
theorem OK.seg (n : Nat) (h : (opsA P cfg nocall fn lo ops (l.take n) fr σ).isSome = true) (k : OK P cfg c fn lo ops (l.drop n) (segA P cfg fn lo ops (l.take n) fr σ).1 (segA P cfg fn lo ops (l.take n) fr σ).2 Q) : OK P cfg c fn lo ops l fr σ Q := by
  obtain ⟨fr', σ', e, hq⟩ := k
  refine ⟨fr', σ', ?_, hq⟩
  unfold segA at e
  cases h1 : opsA P cfg nocall fn lo ops (l.take n) fr σ with
  | none => rw [h1] at h; cases h
  | some q =>
    rw [h1] at e
    rw [← List.take_append_drop n l, opsA_append, opsA_le (nocall_le c) h1]
    exact e

/-- One operation, by what it answers. -/
theorem OK.op {o : Oper} {rest : List Oper} {v : AV} {σ1 : Sto} (hw : wantedA ops fr o = some true) (h : opA P cfg c fn lo fr σ o.op = some (v, σ1)) (k : OK P cfg c fn lo ops rest (putA fr o.dst v) σ1 Q) : OK P cfg c fn lo ops (o :: rest) fr σ Q := by
  obtain ⟨fr', σ', e, hq⟩ := k
  exact ⟨fr', σ', by simp only [opsA, hw, h]; exact e, hq⟩

theorem OK.skip {o : Oper} {rest : List Oper} (hw : wantedA ops fr o = some false) (k : OK P cfg c fn lo ops rest (putA fr o.dst undefA) σ Q) : OK P cfg c fn lo ops (o :: rest) fr σ Q := by
  obtain ⟨fr', σ', e, hq⟩ := k
  exact ⟨fr', σ', by simp only [opsA, hw]; exact e, hq⟩

/-- An operation that computes a condition: by cases. -/
theorem OK.bool {o : Oper} {rest : List Oper} (b : Bool) (hw : wantedA ops fr o = some true) (h : opA P cfg c fn lo fr σ o.op = some (.bool b, σ))
    (k1 : b = true → OK P cfg c fn lo ops rest (putA fr o.dst (.bool true)) σ Q) (k2 : b = false → OK P cfg c fn lo ops rest (putA fr o.dst (.bool false)) σ Q) : OK P cfg c fn lo ops (o :: rest) fr σ Q := by
  cases b with
  | true => exact OK.op hw h (k1 rfl)
  | false => exact OK.op hw h (k2 rfl)

/-- A call of a reader. -/
theorem OK.reader {o : Oper} {rest : List Oper} {cl : Call} {g : Nat} {first cap args args' : List AV} {f : Operand} {r : AV} {σ1 : Sto} (ho : o.op = .call cl) (hw : wantedA ops fr o = some true) (hcal : cl.callee = .value f) (hf : evA cfg fr f = some (.func (.func g) first cap))
    (ha : evsA cfg fr cl.args.toList = some args) (h1 : cfg.clone g = none) (h2 : cfg.ext g = none) (h3 : cfg.mode fn g = .reader) (hs : snapsW (snap lo 6) σ (first ++ args ++ cap) = some (args', σ1)) (hr : readW c g args' σ1 = some (r, σ1))
    (k : OK P cfg c fn lo ops rest (putA fr o.dst r) σ1 Q) : OK P cfg c fn lo ops (o :: rest) fr σ Q := by
  refine OK.op hw ?_ k
  rw [ho]
  simp only [opA, callA, ha, hcal, hf, enterA, h1, h2, h3, hs, hr]

/-- A call of a reader that answers a condition: by cases. -/
theorem OK.readerB {o : Oper} {rest : List Oper} {cl : Call} {g : Nat} {first cap args args' : List AV} {f : Operand} {σ1 : Sto} (b : Bool) (ho : o.op = .call cl) (hw : wantedA ops fr o = some true) (hcal : cl.callee = .value f) (hf : evA cfg fr f = some (.func (.func g) first cap))
    (ha : evsA cfg fr cl.args.toList = some args) (h1 : cfg.clone g = none) (h2 : cfg.ext g = none) (h3 : cfg.mode fn g = .reader) (hs : snapsW (snap lo 6) σ (first ++ args ++ cap) = some (args', σ1)) (hr : readW c g args' σ1 = some (.bool b, σ1))
    (k1 : b = true → OK P cfg c fn lo ops rest (putA fr o.dst (.bool true)) σ1 Q) (k2 : b = false → OK P cfg c fn lo ops rest (putA fr o.dst (.bool false)) σ1 Q) : OK P cfg c fn lo ops (o :: rest) fr σ Q := by
  cases b with
  | true => exact OK.reader ho hw hcal hf ha h1 h2 h3 hs hr (k1 rfl)
  | false => exact OK.reader ho hw hcal hf ha h1 h2 h3 hs hr (k2 rfl)

/-- A call of a reader by its number, whose arguments need no freezing. -/
theorem OK.rd {o : Oper} {rest : List Oper} {cl : Call} {g : Nat} (args args' : List AV) (r : AV) (ho : o.op = .call cl) (hw : wantedA ops fr o = some true) (hcal : cl.callee = .value (.func g))
    (ha : evsA cfg fr cl.args.toList = some args) (h1 : cfg.clone g = none) (h2 : cfg.ext g = none) (h3 : cfg.mode fn g = .reader) (hs : snapsW (snap lo 6) σ args = some (args', σ)) (hr : readW c g args' σ = some (r, σ))
    (k : OK P cfg c fn lo ops rest (putA fr o.dst r) σ Q) : OK P cfg c fn lo ops (o :: rest) fr σ Q :=
  OK.reader (first := []) (cap := []) ho hw hcal rfl ha h1 h2 h3 (by simpa using hs) hr k

theorem OK.rdB {o : Oper} {rest : List Oper} {cl : Call} {g : Nat} (args args' : List AV) (b : Bool) (ho : o.op = .call cl) (hw : wantedA ops fr o = some true) (hcal : cl.callee = .value (.func g))
    (ha : evsA cfg fr cl.args.toList = some args) (h1 : cfg.clone g = none) (h2 : cfg.ext g = none) (h3 : cfg.mode fn g = .reader) (hs : snapsW (snap lo 6) σ args = some (args', σ)) (hr : readW c g args' σ = some (.bool b, σ))
    (k1 : b = true → OK P cfg c fn lo ops rest (putA fr o.dst (.bool true)) σ Q) (k2 : b = false → OK P cfg c fn lo ops rest (putA fr o.dst (.bool false)) σ Q) : OK P cfg c fn lo ops (o :: rest) fr σ Q := by
  cases b with
  | true => exact OK.rd args args' _ ho hw hcal ha h1 h2 h3 hs hr (k1 rfl)
  | false => exact OK.rd args args' _ ho hw hcal ha h1 h2 h3 hs hr (k2 rfl)
end

section
variable {k : Nat} {fr : List AV} {σ : Sto} {Q : XE → List AV → Sto → Prop}

theorem X.mono {a : Code} {Q' : XE → List AV → Sto → Prop} (h : X P cfg k fn lo a fr σ Q) (g : ∀ x fr σ, Q x fr σ → Q' x fr σ) : X P cfg k fn lo a fr σ Q' := by
  obtain ⟨x, fr', σ', e, hq⟩ := h
  exact ⟨x, fr', σ', e, g _ _ _ hq⟩

/-- What goes on behind. -/
def XE.then (next : List AV → Sto → Prop) (Q : XE → List AV → Sto → Prop) : XE → List AV → Sto → Prop
  | .normal, fr, σ => next fr σ
  | x, fr, σ => Q x fr σ

theorem X.skip (h : Q .normal fr σ) : X P cfg (k + 1) fn lo .skip fr σ Q := ⟨_, _, _, rfl, h⟩
theorem X.ret (h : Q .ret fr σ) : X P cfg (k + 1) fn lo .ret fr σ Q := ⟨_, _, _, rfl, h⟩
theorem X.exit {id : Nat} (h : Q (.exit id) fr σ) : X P cfg (k + 1) fn lo (.exit id) fr σ Q := ⟨_, _, _, rfl, h⟩
theorem X.scope {a : Code} (h : X P cfg k fn lo a fr σ Q) : X P cfg (k + 1) fn lo (.scope a) fr σ Q := h
theorem X.seq {a b : Code} (h : X P cfg k fn lo a fr σ (XE.then (fun fr σ => X P cfg k fn lo b fr σ Q) Q)) : X P cfg (k + 1) fn lo (.seq a b) fr σ Q := by
  obtain ⟨x, fr', σ', e, hq⟩ := h
  cases x with
  | normal =>
    obtain ⟨x2, fr2, σ2, e2, hq2⟩ := hq
    exact ⟨x2, fr2, σ2, by simp only [exec, execW, e, seqW]; exact e2, hq2⟩
  | exit id => exact ⟨_, _, _, by simp only [exec, execW, e, seqW], hq⟩
  | ret => exact ⟨_, _, _, by simp only [exec, execW, e, seqW], hq⟩
theorem X.loop {a : Code} (dead : List Nat) (hd : cfg.dead fn (firstId a) = dead) (h : X P cfg k fn lo a (clearA' dead fr) σ (XE.then (fun fr' σ' => X P cfg k fn lo (.loop a) (gcA dead σ.length fr' σ').1 (gcA dead σ.length fr' σ').2 Q) Q)) : X P cfg (k + 1) fn lo (.loop a) fr σ Q := by
  subst hd
  obtain ⟨x, fr', σ', e, hq⟩ := h
  cases x with
  | normal =>
    obtain ⟨x2, fr2, σ2, e2, hq2⟩ := hq
    exact ⟨x2, fr2, σ2, by simp only [exec, execW, e, loopW, seqW]; exact e2, hq2⟩
  | exit id => exact ⟨_, _, _, by simp only [exec, execW, e, loopW, seqW], hq⟩
  | ret => exact ⟨_, _, _, by simp only [exec, execW, e, loopW, seqW], hq⟩
theorem X.cond {x : Operand} {a b : Code} (t : Bool) (hc : evA cfg fr x = some (.bool t)) (h1 : t = true → X P cfg k fn lo a fr σ Q) (h2 : t = false → X P cfg k fn lo b fr σ Q) : X P cfg (k + 1) fn lo (.cond x a b) fr σ Q := by
  cases t with
  | true => obtain ⟨x, fr', σ', e, hq⟩ := h1 rfl; exact ⟨x, fr', σ', by simp only [exec, execW, condW, hc]; exact e, hq⟩
  | false => obtain ⟨x, fr', σ', e, hq⟩ := h2 rfl; exact ⟨x, fr', σ', by simp only [exec, execW, condW, hc]; exact e, hq⟩

def XE.inBlock (id : Nat) (Q : XE → List AV → Sto → Prop) : XE → List AV → Sto → Prop
  | .exit id', fr, σ => if id' = id then Q .normal fr σ else Q (.exit id') fr σ
  | x, fr, σ => Q x fr σ

theorem X.block {id : Nat} {a : Code} (h : X P cfg k fn lo a fr σ (XE.inBlock id Q)) : X P cfg (k + 1) fn lo (.block id a) fr σ Q := by
  obtain ⟨x, fr', σ', e, hq⟩ := h
  cases x with
  | normal => exact ⟨_, _, _, by simp only [exec, execW, e, blockW], hq⟩
  | ret => exact ⟨_, _, _, by simp only [exec, execW, e, blockW], hq⟩
  | exit id' =>
    simp only [XE.inBlock] at hq
    split at hq
    · rename_i hid; exact ⟨.normal, fr', σ', by simp only [exec, execW, e, blockW]; rw [if_pos hid], hq⟩
    · rename_i hid; exact ⟨.exit id', fr', σ', by simp only [exec, execW, e, blockW]; rw [if_neg hid], hq⟩

theorem X.region {id : Nat} {ops : Array Oper} (h : OK P cfg (callW P (exec P cfg k)) fn lo ops ops.toList fr σ (fun fr σ => Q .normal fr σ)) : X P cfg (k + 1) fn lo (.region id ops false) fr σ Q := by
  obtain ⟨fr', σ', e, hq⟩ := h
  exact ⟨_, fr', σ', by simp only [exec, execW, e, normW, Option.map_some], hq⟩

/-- A loop, by what goes down. -/
theorem X.rounds {a : Code} {K : Nat} (dead : List Nat) (hd : cfg.dead fn (firstId a) = dead) (I : Nat → List AV → Sto → Prop)
    (round : ∀ m fr σ, I m fr σ → ∀ k, K ≤ k → X P cfg k fn lo a (clearA' dead fr) σ (XE.then (fun fr' σ' => ∃ m', m' < m ∧ I m' (gcA dead σ.length fr' σ').1 (gcA dead σ.length fr' σ').2) Q)) :
    ∀ {m : Nat} {fr : List AV} {σ : Sto}, I m fr σ → ∀ {k : Nat}, K + m + 1 ≤ k → X P cfg k fn lo (.loop a) fr σ Q := by
  intro m
  induction m using Nat.strongRecOn with
  | ind m ih =>
    intro fr σ hI k hk
    obtain ⟨k1, rfl⟩ : ∃ k1, k = k1 + 1 := ⟨k - 1, by omega⟩
    refine X.loop dead hd ((round m fr σ hI k1 (by omega)).mono fun x fr' σ' hq => ?_)
    cases x with
    | normal =>
      obtain ⟨m', hlt, hI'⟩ := hq
      exact ih m' hlt hI' (by omega)
    | exit id => exact hq
    | ret => exact hq
end

/-- What a reader gives back. -/
def givesA (P : Program) (n : Nat) (rs : Array ResultVar) (fr : List AV) (σ : Sto) : Option AV :=
  match resultsA P σ fr rs.toList with
  | some vs => match snap n 6 σ (tupleA vs) with
    | some (r, _) => if r.free then some r else none
    | none => none
  | none => none

def XE.leaves : XE → Bool
  | .exit _ => false
  | _ => true

/-- A reader, from its body. -/
theorem reader_of {k f : Nat} {fnn : Func} {b : Code} {args : List AV} {r : AV} {σ : Sto} (hf : P.funcs[f]? = some fnn) (hb : fnn.body = some b) (hfr : AV.frees args = true)
    (h : X P cfg k f 0 b (args ++ List.replicate (fnn.ntmps - args.length) undefA) [] (fun x fr' σ' => x.leaves = true ∧ givesA P 0 fnn.results fr' σ' = some r)) :
    readW (callF P cfg k) f args σ = some (r, σ) := by
  obtain ⟨x, fr', σ', e, hx, h1⟩ := h
  unfold givesA at h1
  split at h1
  · rename_i vs h2
    split at h1
    · rename_i r' σ3 h3
      split at h1
      · rename_i h4
        cases h1
        unfold readW callF callW
        simp only [hf, hb, e, hfr, if_true]
        cases x with
        | exit id => cases hx
        | normal => simp only [finA, h2, Option.map_some, h3, h4, if_true]
        | ret => simp only [finA, h2, Option.map_some, h3, h4, if_true]
      · cases h1
    · cases h1
  · cases h1

theorem fin_bool {n : Nat} {rs : Array ResultVar} {fr : List AV} {σ : Sto} (b : Bool) {b' : Bool} (h : givesA P n rs fr σ = some (.bool b)) (e : b = b') : givesA P n rs fr σ = some (.bool b') := by rw [h, e]
end Go.Abs

/- Regions whose order is drawn, walked through in the text's order. -/
namespace Go.Abs

variable {P : Program} {cfg : Cfg} {fn lo : Nat}

def DK (P : Program) (cfg : Cfg) (c : Caller) (fn lo : Nat) (ops : Array Oper) (l : List Oper) (fr : List AV) (σ : Sto) (Q : List AV → Sto → Prop) : Prop :=
  ∀ tr, ∃ tr' fr' σ', drawA P cfg c fn lo ops l tr fr σ = some (tr', fr', σ') ∧ Q fr' σ'

theorem drawA_tr {c : Caller} {ops : Array Oper} : ∀ {l : List Oper} {tr : List (Option Nat)} {fr : List AV} {σ : Sto}, drawA P cfg c fn lo ops l tr fr σ = (drawA P cfg c fn lo ops l [] fr σ).map fun x => (tr ++ x.1, x.2)
  | [], tr, fr, σ => by simp [drawA]
  | o :: rest, tr, fr, σ => by
    simp only [drawA]
    split
    · split
      · rw [drawA_tr (tr := tr ++ _), drawA_tr (tr := [] ++ _)]
        simp [Function.comp_def]
      · rfl
    · rw [drawA_tr (tr := tr ++ _), drawA_tr (tr := [] ++ _)]
      simp [Function.comp_def]
    · rfl

theorem drawA_le {c d : Caller} (h : CallLe c d) {ops : Array Oper} : ∀ {l : List Oper} {tr : List (Option Nat)} {fr : List AV} {σ : Sto} {x : List (Option Nat) × List AV × Sto}, drawA P cfg c fn lo ops l tr fr σ = some x → drawA P cfg d fn lo ops l tr fr σ = some x
  | [], _, _, _, _, e => e
  | o :: rest, tr, fr, σ, x, e => by
    simp only [drawA] at e ⊢
    split at e
    · split at e
      · rename_i ho
        simp only [opA_le h ho]
        exact drawA_le h e
      · cases e
    · exact drawA_le h e
    · cases e

theorem drawA_append {c : Caller} {ops : Array Oper} : ∀ {l l' : List Oper} {tr : List (Option Nat)} {fr : List AV} {σ : Sto}, drawA P cfg c fn lo ops (l ++ l') tr fr σ = (match drawA P cfg c fn lo ops l tr fr σ with | some (tr', fr', σ') => drawA P cfg c fn lo ops l' tr' fr' σ' | none => none)
  | [], _, _, _, _ => rfl
  | o :: rest, l', tr, fr, σ => by
    simp only [List.cons_append, drawA]
    split
    · split
      · exact drawA_append
      · rfl
    · exact drawA_append
    · rfl

section
variable {c : Caller} {ops : Array Oper} {l : List Oper} {fr : List AV} {σ : Sto} {Q : List AV → Sto → Prop}

def segD (P : Program) (cfg : Cfg) (fn lo : Nat) (ops : Array Oper) (l : List Oper) (fr : List AV) (σ : Sto) : List AV × Sto := ((drawA P cfg nocall fn lo ops l [] fr σ).getD ([], [], [])).2

theorem DK.nil (h : Q fr σ) : DK P cfg c fn lo ops [] fr σ Q := fun tr => ⟨tr, fr, σ, rfl, h⟩

/-- A straight piece. -/
theorem DK.seg (n : Nat) (h : (drawA P cfg nocall fn lo ops (l.take n) [] fr σ).isSome = true) (k : DK P cfg c fn lo ops (l.drop n) (segD P cfg fn lo ops (l.take n) fr σ).1 (segD P cfg fn lo ops (l.take n) fr σ).2 Q) : DK P cfg c fn lo ops l fr σ Q := by
  intro tr
  unfold segD at k
  cases h1 : drawA P cfg nocall fn lo ops (l.take n) [] fr σ with
  | none => rw [h1] at h; cases h
  | some q =>
    obtain ⟨t, f, s⟩ := q
    rw [h1] at k
    obtain ⟨tr', fr', σ', e, hq⟩ := k (tr ++ t)
    refine ⟨tr', fr', σ', ?_, hq⟩
    rw [← List.take_append_drop n l, drawA_append, drawA_tr, drawA_le (nocall_le c) h1]
    exact e

/-- One operation, by what it answers. -/
theorem DK.op {o : Oper} {rest : List Oper} {v : AV} {σ1 : Sto} (hw : wantedA ops fr o = some true) (h : opA P cfg c fn (if classA cfg fn o.op = 2 then lo else σ.length) fr σ o.op = some (v, σ1)) (k : DK P cfg c fn lo ops rest (putA fr o.dst v) σ1 Q) : DK P cfg c fn lo ops (o :: rest) fr σ Q := by
  intro tr
  obtain ⟨tr', fr', σ', e, hq⟩ := k (tr ++ [lookA cfg fr o.op])
  exact ⟨tr', fr', σ', by simp only [drawA, hw, h]; exact e, hq⟩

theorem DK.bool {o : Oper} {rest : List Oper} (b : Bool) (hw : wantedA ops fr o = some true) (h : opA P cfg c fn (if classA cfg fn o.op = 2 then lo else σ.length) fr σ o.op = some (.bool b, σ))
    (k1 : b = true → DK P cfg c fn lo ops rest (putA fr o.dst (.bool true)) σ Q) (k2 : b = false → DK P cfg c fn lo ops rest (putA fr o.dst (.bool false)) σ Q) : DK P cfg c fn lo ops (o :: rest) fr σ Q := by
  cases b with
  | true => exact DK.op hw h (k1 rfl)
  | false => exact DK.op hw h (k2 rfl)

/-- A call of a reader by its number, whose arguments need no freezing. -/
theorem DK.rd {o : Oper} {rest : List Oper} {cl : Call} {g : Nat} (args args' : List AV) (r : AV) (ho : o.op = .call cl) (hw : wantedA ops fr o = some true) (hcal : cl.callee = .value (.func g))
    (ha : evsA cfg fr cl.args.toList = some args) (h1 : cfg.clone g = none) (h2 : cfg.ext g = none) (h3 : cfg.mode fn g = .reader) (hs : snapsW (snap σ.length 6) σ args = some (args', σ)) (hr : readW c g args' σ = some (r, σ))
    (k : DK P cfg c fn lo ops rest (putA fr o.dst r) σ Q) : DK P cfg c fn lo ops (o :: rest) fr σ Q := by
  have hcl : classA cfg fn o.op ≠ 2 := by
    rw [ho]
    simp [classA, hcal, h1, h2, h3]
  refine DK.op hw ?_ k
  rw [if_neg hcl, ho]
  simp only [opA, callA, ha, hcal, evA, enterA, List.nil_append, List.append_nil, h1, h2, h3, hs, hr]

theorem DK.rdB {o : Oper} {rest : List Oper} {cl : Call} {g : Nat} (args args' : List AV) (b : Bool) (ho : o.op = .call cl) (hw : wantedA ops fr o = some true) (hcal : cl.callee = .value (.func g))
    (ha : evsA cfg fr cl.args.toList = some args) (h1 : cfg.clone g = none) (h2 : cfg.ext g = none) (h3 : cfg.mode fn g = .reader) (hs : snapsW (snap σ.length 6) σ args = some (args', σ)) (hr : readW c g args' σ = some (.bool b, σ))
    (k1 : b = true → DK P cfg c fn lo ops rest (putA fr o.dst (.bool true)) σ Q) (k2 : b = false → DK P cfg c fn lo ops rest (putA fr o.dst (.bool false)) σ Q) : DK P cfg c fn lo ops (o :: rest) fr σ Q := by
  cases b with
  | true => exact DK.rd args args' _ ho hw hcal ha h1 h2 h3 hs hr (k1 rfl)
  | false => exact DK.rd args args' _ ho hw hcal ha h1 h2 h3 hs hr (k2 rfl)
end

theorem X.draw {k : Nat} {fr : List AV} {σ : Sto} {Q : XE → List AV → Sto → Prop} {id : Nat} {ops : Array Oper} (h1 : drawOk cfg fn ops = true) (h2 : ops.all (fun o => o.dst.all (· < fr.length)) = true) (h3 : pairsA cfg fn ops = [])
    (h : DK P cfg (callW P (exec P cfg k)) fn lo ops ops.toList fr σ (fun fr σ => Q .normal fr σ)) : X P cfg (k + 1) fn lo (.region id ops true) fr σ Q := by
  obtain ⟨tr', fr', σ', e, hq⟩ := h []
  refine ⟨_, fr', σ', ?_, hq⟩
  simp only [exec, execW, regionA, h1, h2, h3, e, normW, Bool.and_true, if_true, List.all_nil, Option.map_some]

theorem idx_op {c : Caller} {lo' : Nat} {fr : List AV} {σ : Sto} {o : Op} {t elem : TypeId} {x i : Operand} {sz : Nat} {es : List AV} {ex : Bool} {k : IntKind} {n : Int} {e : AV} (ho : o = .indexAddr t x i) (hu : P.underlying t = some (.slice elem)) (hs : szOf P elem = some sz)
    (hx : evA cfg fr x = some (.list es ex)) (hi : evA cfg fr i = some (.int k n)) (hn : 0 ≤ n) (he : es[n.toNat]? = some e) (hl : e.cells.length = sz) : opA P cfg c fn lo' fr σ o = some (.ro e.cells 0, σ) := by
  subst ho
  simp [opA, op2, hx, hi, indexAddrA, hu, hs, hn, he, hl, sameA]

theorem add_op {c : Caller} {lo' : Nat} {fr : List AV} {σ : Sto} {o : Op} {t t' : TypeId} {x y : Operand} {k : IntKind} {a b d : Int} (ho : o = .binOp .add t x y t') (hx : evA cfg fr x = some (.int k a)) (hy : evA cfg fr y = some (.int k b)) (hw : k.wrap (a + b) = d) :
    opA P cfg c fn lo' fr σ o = some (.int k d, σ) := by
  subst ho
  simp [opA, op2, hx, hy, sameA, hw]

theorem wrap64 {n : Int} (h1 : -9223372036854775808 ≤ n) (h2 : n < 9223372036854775808) : IntKind.wrap .i64 n = n := by
  simp only [IntKind.wrap]
  have e1 : (2 : Int) ^ IntKind.i64.bits = 18446744073709551616 := by decide
  have e2 : (2 : Int) ^ (IntKind.i64.bits - 1) = 9223372036854775808 := by decide
  rw [e1, e2]
  simp only [IntKind.signed, Bool.true_and, decide_eq_true_eq]
  split <;> omega

/-- The store stays. -/
theorem OK.val {c : Caller} {ops : Array Oper} {fr : List AV} {σ : Sto} {Q : List AV → Sto → Prop} {o : Oper} {rest : List Oper} (v : AV) (hw : wantedA ops fr o = some true) (h : ∀ lo', opA P cfg c fn lo' fr σ o.op = some (v, σ)) (k : OK P cfg c fn lo ops rest (putA fr o.dst v) σ Q) : OK P cfg c fn lo ops (o :: rest) fr σ Q := OK.op hw (h _) k
theorem DK.val {c : Caller} {ops : Array Oper} {fr : List AV} {σ : Sto} {Q : List AV → Sto → Prop} {o : Oper} {rest : List Oper} (v : AV) (hw : wantedA ops fr o = some true) (h : ∀ lo', opA P cfg c fn lo' fr σ o.op = some (v, σ)) (k : DK P cfg c fn lo ops rest (putA fr o.dst v) σ Q) : DK P cfg c fn lo ops (o :: rest) fr σ Q := DK.op hw (h _) k
end Go.Abs

/- The collector where nothing new is mentioned. -/
namespace Go.Abs

mutual
theorem within_of_blocks {K : Nat → Bool} : ∀ {a : AV}, a.blocks = [] → a.within K = true
  | .iface _ v, h => by simp only [AV.blocks] at h; simp only [AV.within]; exact within_of_blocks h
  | .agg cs, h => by simp only [AV.blocks] at h; simp only [AV.within]; exact withins_of_blocks h
  | .tuple cs, h => by simp only [AV.blocks] at h; simp only [AV.within]; exact withins_of_blocks h
  | .func _ f c, h => by
    simp only [AV.blocks, List.append_eq_nil_iff] at h
    simp only [AV.within, withins_of_blocks h.1, withins_of_blocks h.2, Bool.and_self]
  | .list es _, h => by simp only [AV.blocks] at h; simp only [AV.within]; exact withins_of_blocks h
  | .ro cs _, h => by simp only [AV.blocks] at h; simp only [AV.within]; exact withins_of_blocks h
  | .ptr b _, h => by simp [AV.blocks] at h
  | .eptr b _ _ _, h => by simp [AV.blocks] at h
  | .sl b _ _ _, h => by simp [AV.blocks] at h
  | .bsl b _ _, h => by simp [AV.blocks] at h
  | .bool _, _ => rfl
  | .int _ _, _ => rfl
  | .str _, _ => rfl
  | .nilIface, _ => rfl
  | .nilFunc, _ => rfl
  | .nilp, _ => rfl
  | .opq, _ => rfl
theorem withins_of_blocks {K : Nat → Bool} : ∀ {as : List AV}, AV.blockss as = [] → AV.withins K as = true
  | [], _ => rfl
  | a :: as, h => by
    simp only [AV.blockss, List.append_eq_nil_iff] at h
    simp only [AV.withins, within_of_blocks h.1, withins_of_blocks h.2, Bool.and_self]
end

theorem reachA_nil {n0 : Nat} {σ : Sto} : ∀ {k : Nat}, reachA n0 σ k [] = []
  | 0 => rfl
  | k + 1 => by simp only [reachA, List.flatMap_nil, addNew]; exact reachA_nil

theorem withinS_nil {n0 : Nat} : ∀ {σ : Sto} {b : Nat}, ((σ.take (n0 - b)).flatMap fun x => AV.blockss x.parts) = [] → withinS n0 [] b σ = true
  | [], _, _ => rfl
  | x :: σ, b, h => by
    simp only [withinS, Bool.and_eq_true, Bool.or_eq_true, Bool.not_eq_true']
    by_cases hb : b < n0
    · obtain ⟨m, hm⟩ : ∃ m, n0 - b = m + 1 := ⟨n0 - b - 1, by omega⟩
      rw [hm, List.take_succ_cons, List.flatMap_cons, List.append_eq_nil_iff] at h
      refine ⟨.inr (withins_of_blocks h.1), withinS_nil ?_⟩
      rw [show n0 - (b + 1) = m by omega]; exact h.2
    · refine ⟨.inl (by simp [keptA, hb]), withinS_nil ?_⟩
      rw [show n0 - (b + 1) = 0 by omega]; rfl

theorem blankA_nil {n0 : Nat} : ∀ {σ : Sto} {b : Nat}, b + σ.length ≤ n0 → blankA n0 [] b σ = σ
  | [], _, _ => rfl
  | x :: σ, b, h => by
    simp only [List.length_cons] at h
    simp only [blankA]
    rw [if_pos (by simp [keptA]; omega), blankA_nil (by omega)]

theorem gcA_none {dead : List Nat} {n0 : Nat} {fr : List AV} {σ : Sto} (hd : dead.isEmpty = false) (h1 : AV.blockss (clearA' dead fr) = []) (h2 : ((σ.take n0).flatMap fun x => AV.blockss x.parts) = []) :
    gcA dead n0 fr σ = (clearA' dead fr, σ.take n0) := by
  unfold gcA
  rw [hd]
  simp only [Bool.false_eq_true, if_false, h1, h2, List.append_nil, addNew, reachA_nil, List.foldl_nil]
  rw [if_pos (by rw [withins_of_blocks h1, withinS_nil (by rw [Nat.sub_zero]; exact h2)]; rfl), blankA_nil (by simp; omega)]

theorem blockss_map {α : Type} {f : α → AV} (h : ∀ x, (f x).blocks = []) : ∀ xs : List α, AV.blockss (xs.map f) = []
  | [] => rfl
  | x :: xs => by simp only [List.map_cons, AV.blockss, h x, blockss_map h xs, List.append_nil]

theorem frees_map {α : Type} {f : α → AV} (h : ∀ x, (f x).free = true) : ∀ xs : List α, AV.frees (xs.map f) = true
  | [] => rfl
  | x :: xs => by simp only [List.map_cons, AV.frees, h x, frees_map h xs, Bool.and_self]

/-- The end of a round: the frame, cleared, and the store, told. -/
theorem round_end {I : Nat → List AV → Sto → Prop} {dead : List Nat} {n0 m : Nat} {fr : List AV} {σ : Sto} (E : List AV) (S : Sto) (h1 : clearA' dead fr = E) (h2 : σ = S) (hd : dead.isEmpty = false) (h3 : AV.blockss E = [])
    (h4 : ((S.take n0).flatMap fun x => AV.blockss x.parts) = []) (h : ∃ m', m' < m ∧ I m' E (S.take n0)) : ∃ m', m' < m ∧ I m' (gcA dead n0 fr σ).1 (gcA dead n0 fr σ).2 := by
  subst h1 h2
  rw [gcA_none hd h3 h4]
  exact h

/-- A loop whose rounds leave nothing new behind. -/
theorem X.rounds2 {P : Program} {cfg : Cfg} {fn lo : Nat} {Q : XE → List AV → Sto → Prop} {a : Code} {K : Nat} (dead : List Nat) (hd : cfg.dead fn (firstId a) = dead) (hne : dead.isEmpty = false) (I : Nat → List AV → Sto → Prop)
    (round : ∀ m fr σ, I m fr σ → ∀ k, K ≤ k → X P cfg k fn lo a (clearA' dead fr) σ (XE.then (fun fr' σ' => ∃ E S, clearA' dead fr' = E ∧ σ' = S ∧ AV.blockss E = [] ∧ ((S.take σ.length).flatMap fun x => AV.blockss x.parts) = [] ∧ ∃ m', m' < m ∧ I m' E (S.take σ.length)) Q)) :
    ∀ {m : Nat} {fr : List AV} {σ : Sto}, I m fr σ → ∀ {k : Nat}, K + m + 1 ≤ k → X P cfg k fn lo (.loop a) fr σ Q :=
  X.rounds dead hd I fun m fr σ hI k hk => (round m fr σ hI k hk).mono fun x fr' σ' hq => by
    cases x with
    | normal =>
      obtain ⟨E, S, h1, h2, h3, h4, h⟩ := hq
      exact round_end (I := I) E S h1 h2 hne h3 h4 h
    | exit id => exact hq
    | ret => exact hq
end Go.Abs

/- More rules of the walk: conditions as propositions, explicit frames, inlined calls, loops that are unrolled. -/
namespace Go.Abs

variable {P : Program} {cfg : Cfg} {fn lo : Nat}

section
variable {c : Caller} {ops : Array Oper} {fr : List AV} {σ : Sto} {Q : List AV → Sto → Prop} {o : Oper} {rest : List Oper}

theorem OK.dec (p : Prop) [Decidable p] (hw : wantedA ops fr o = some true) (h : opA P cfg c fn lo fr σ o.op = some (.bool (decide p), σ))
    (k1 : p → OK P cfg c fn lo ops rest (putA fr o.dst (.bool true)) σ Q) (k2 : ¬p → OK P cfg c fn lo ops rest (putA fr o.dst (.bool false)) σ Q) : OK P cfg c fn lo ops (o :: rest) fr σ Q := by
  by_cases hp : p
  · rw [decide_eq_true hp] at h; exact OK.op hw h (k1 hp)
  · rw [decide_eq_false hp] at h; exact OK.op hw h (k2 hp)
theorem OK.ndec (p : Prop) [Decidable p] (hw : wantedA ops fr o = some true) (h : opA P cfg c fn lo fr σ o.op = some (.bool (!decide p), σ))
    (k1 : ¬p → OK P cfg c fn lo ops rest (putA fr o.dst (.bool true)) σ Q) (k2 : p → OK P cfg c fn lo ops rest (putA fr o.dst (.bool false)) σ Q) : OK P cfg c fn lo ops (o :: rest) fr σ Q := by
  by_cases hp : p
  · rw [decide_eq_true hp] at h; exact OK.op hw h (k2 hp)
  · rw [decide_eq_false hp] at h; exact OK.op hw h (k1 hp)
theorem DK.dec (p : Prop) [Decidable p] (hw : wantedA ops fr o = some true) (h : opA P cfg c fn (if classA cfg fn o.op = 2 then lo else σ.length) fr σ o.op = some (.bool (decide p), σ))
    (k1 : p → DK P cfg c fn lo ops rest (putA fr o.dst (.bool true)) σ Q) (k2 : ¬p → DK P cfg c fn lo ops rest (putA fr o.dst (.bool false)) σ Q) : DK P cfg c fn lo ops (o :: rest) fr σ Q := by
  by_cases hp : p
  · rw [decide_eq_true hp] at h; exact DK.op hw h (k1 hp)
  · rw [decide_eq_false hp] at h; exact DK.op hw h (k2 hp)
theorem DK.ndec (p : Prop) [Decidable p] (hw : wantedA ops fr o = some true) (h : opA P cfg c fn (if classA cfg fn o.op = 2 then lo else σ.length) fr σ o.op = some (.bool (!decide p), σ))
    (k1 : ¬p → DK P cfg c fn lo ops rest (putA fr o.dst (.bool true)) σ Q) (k2 : p → DK P cfg c fn lo ops rest (putA fr o.dst (.bool false)) σ Q) : DK P cfg c fn lo ops (o :: rest) fr σ Q := by
  by_cases hp : p
  · rw [decide_eq_true hp] at h; exact DK.op hw h (k2 hp)
  · rw [decide_eq_false hp] at h; exact DK.op hw h (k1 hp)

theorem OK.at {l : List Oper} (E : List AV) (S : Sto) (h1 : fr = E) (h2 : σ = S) (k : OK P cfg c fn lo ops l E S Q) : OK P cfg c fn lo ops l fr σ Q := by subst h1 h2; exact k
theorem DK.at {l : List Oper} (E : List AV) (S : Sto) (h1 : fr = E) (h2 : σ = S) (k : DK P cfg c fn lo ops l E S Q) : DK P cfg c fn lo ops l fr σ Q := by subst h1 h2; exact k

/-- A piece, with what it leaves. -/
theorem OK.segE {l : List Oper} (n : Nat) (E : List AV) (S : Sto) (h : opsA P cfg nocall fn lo ops (l.take n) fr σ = some (E, S)) (k : OK P cfg c fn lo ops (l.drop n) E S Q) : OK P cfg c fn lo ops l fr σ Q := by
  obtain ⟨fr', σ', e, hq⟩ := k
  refine ⟨fr', σ', ?_, hq⟩
  rw [← List.take_append_drop n l, opsA_append, opsA_le (nocall_le c) h]
  exact e
theorem DK.segE {l : List Oper} (n : Nat) (E : List AV) (S : Sto) (h : (drawA P cfg nocall fn lo ops (l.take n) [] fr σ).map (·.2) = some (E, S)) (k : DK P cfg c fn lo ops (l.drop n) E S Q) : DK P cfg c fn lo ops l fr σ Q := by
  intro tr
  cases h1 : drawA P cfg nocall fn lo ops (l.take n) [] fr σ with
  | none => rw [h1] at h; cases h
  | some q =>
    obtain ⟨t, f, s⟩ := q
    rw [h1] at h
    simp only [Option.map_some, Option.some.injEq, Prod.mk.injEq] at h
    obtain ⟨rfl, rfl⟩ := h
    obtain ⟨tr', fr', σ', e, hq⟩ := k (tr ++ t)
    refine ⟨tr', fr', σ', ?_, hq⟩
    rw [← List.take_append_drop n l, drawA_append, drawA_tr, drawA_le (nocall_le c) h1]
    exact e
end

theorem X.at {k : Nat} {a : Code} {fr : List AV} {σ : Sto} {Q : XE → List AV → Sto → Prop} (E : List AV) (S : Sto) (h1 : fr = E) (h2 : σ = S) (h : X P cfg k fn lo a E S Q) : X P cfg k fn lo a fr σ Q := by subst h1 h2; exact h

theorem X.condT {k : Nat} {fr : List AV} {σ : Sto} {Q : XE → List AV → Sto → Prop} {x : Operand} {a b : Code} (hc : evA cfg fr x = some (.bool true)) (h1 : X P cfg k fn lo a fr σ Q) : X P cfg (k + 1) fn lo (.cond x a b) fr σ Q := X.cond true hc (fun _ => h1) (fun h => by cases h)
theorem X.condF {k : Nat} {fr : List AV} {σ : Sto} {Q : XE → List AV → Sto → Prop} {x : Operand} {a b : Code} (hc : evA cfg fr x = some (.bool false)) (h1 : X P cfg k fn lo b fr σ Q) : X P cfg (k + 1) fn lo (.cond x a b) fr σ Q := X.cond false hc (fun h => by cases h) (fun _ => h1)
theorem X.cond' {k : Nat} {fr : List AV} {σ : Sto} {Q : XE → List AV → Sto → Prop} {x : Operand} {a b : Code} (p : Prop) [Decidable p] (hc : evA cfg fr x = some (.bool (decide p))) (h1 : p → X P cfg k fn lo a fr σ Q) (h2 : ¬p → X P cfg k fn lo b fr σ Q) : X P cfg (k + 1) fn lo (.cond x a b) fr σ Q :=
  X.cond (decide p) hc (fun h => h1 (of_decide_eq_true h)) (fun h => h2 (of_decide_eq_false h))

/-- A round that is unrolled. -/
theorem X.loop1 {k : Nat} {fr : List AV} {σ : Sto} {Q : XE → List AV → Sto → Prop} {a : Code} (hd : cfg.dead fn (firstId a) = []) (h : X P cfg k fn lo a fr σ (XE.then (fun fr' σ' => X P cfg k fn lo (.loop a) fr' σ' Q) Q)) : X P cfg (k + 1) fn lo (.loop a) fr σ Q :=
  X.loop [] hd h

/-- An element of a slice that is known as a map. -/
theorem idx_map {α : Type} {g : α → AV} {d : α} {c : Caller} {lo' : Nat} {fr : List AV} {σ : Sto} {o : Op} {t elem : TypeId} {x i : Operand} {sz : Nat} {xs : List α} {ex : Bool} {k : IntKind} {n : Int} (ho : o = .indexAddr t x i) (hu : P.underlying t = some (.slice elem)) (hs : szOf P elem = some sz)
    (hx : evA cfg fr x = some (.list (xs.map g) ex)) (hi : evA cfg fr i = some (.int k n)) (hl : (g (xs.getD n.toNat d)).cells.length = sz) (hn : 0 ≤ n) (he : n.toNat < xs.length) : opA P cfg c fn lo' fr σ o = some (.ro (g (xs.getD n.toNat d)).cells 0, σ) := by
  have e : xs.getD n.toNat d = xs[n.toNat] := by simp [List.getD, he]
  rw [e] at hl ⊢
  exact idx_op ho hu hs hx hi hn (by simp [he]) hl

/-- An element of an array that is known as agg. -/
theorem arr_op {c : Caller} {lo' : Nat} {fr : List AV} {σ : Sto} {o : Op} {t elem : TypeId} {x i : Operand} {len : Nat} {cs : List AV} {k : IntKind} {n : Int} {e : AV} (ho : o = .index t x i) (hu : P.underlying t = some (.array len elem)) (hs : szOf P elem = some 1) (ha : isAggO P elem = some false)
    (hx : evA cfg fr x = some (.agg cs)) (hi : evA cfg fr i = some (.int k n)) (hn : 0 ≤ n) (hl : n < len) (he : cs[n.toNat]? = some e) : opA P cfg c fn lo' fr σ o = some (e, σ) := by
  subst ho
  simp [opA, op2, hx, hi, indexA, hu, hs, hn, hl, partA, ha, he, sameA]

/-- A call that is run where it stands. -/
theorem OK.inl {kk : Nat} {ops : Array Oper} {fr : List AV} {σ : Sto} {Q : List AV → Sto → Prop} {o : Oper} {rest : List Oper} {cl : Call} {g : Nat} {first cap args : List AV} {f : Operand} {fnn : Func} {b : Code} (ho : o.op = .call cl) (hw : wantedA ops fr o = some true) (hcal : cl.callee = .value f) (hf : evA cfg fr f = some (.func (.func g) first cap))
    (ha : evsA cfg fr cl.args.toList = some args) (h1 : cfg.clone g = none) (h2 : cfg.ext g = none) (h3 : cfg.mode fn g = .inline) (hfn : P.funcs[g]? = some fnn) (hb : fnn.body = some b)
    (h : X P cfg kk g lo b ((first ++ args ++ cap) ++ List.replicate (fnn.ntmps - (first ++ args ++ cap).length) undefA) σ (fun x fr' σ' => x.leaves = true ∧ ∃ vs, resultsA P σ' fr' fnn.results.toList = some vs ∧ OK P cfg (callW P (exec P cfg kk)) fn lo ops rest (putA fr o.dst (tupleA vs)) σ' Q)) : OK P cfg (callW P (exec P cfg kk)) fn lo ops (o :: rest) fr σ Q := by
  obtain ⟨x, fr', σ', e, hx, vs, hv, hk⟩ := h
  refine OK.op hw ?_ hk
  rw [ho]
  simp only [opA, callA, ha, hcal, hf, enterA, h1, h2, h3]
  unfold callW
  simp only [hfn, hb, e]
  cases x with
  | exit id => cases hx
  | normal => simp only [finA, hv, Option.map_some]
  | ret => simp only [finA, hv, Option.map_some]

theorem giv {P : Program} {n : Nat} {rs : Array ResultVar} {fr : List AV} {σ : Sto} {r r' : AV} (h : givesA P n rs fr σ = some r) (e : r = r') : givesA P n rs fr σ = some r' := by rw [h, e]

section
variable {c : Caller} {ops : Array Oper} {fr : List AV} {σ : Sto} {Q : List AV → Sto → Prop}
/-- A reader's call that answers a condition. -/
theorem OK.rdP {o : Oper} {rest : List Oper} {cl : Call} {g : Nat} (args args' : List AV) (p : Prop) [Decidable p] (ho : o.op = .call cl) (hw : wantedA ops fr o = some true) (hcal : cl.callee = .value (.func g))
    (ha : evsA cfg fr cl.args.toList = some args) (h1 : cfg.clone g = none) (h2 : cfg.ext g = none) (h3 : cfg.mode fn g = .reader) (hs : snapsW (snap lo 6) σ args = some (args', σ)) (hr : readW c g args' σ = some (.bool (decide p), σ))
    (k1 : p → OK P cfg c fn lo ops rest (putA fr o.dst (.bool true)) σ Q) (k2 : ¬p → OK P cfg c fn lo ops rest (putA fr o.dst (.bool false)) σ Q) : OK P cfg c fn lo ops (o :: rest) fr σ Q :=
  OK.rdB args args' (decide p) ho hw hcal ha h1 h2 h3 hs hr (fun h => k1 (of_decide_eq_true h)) (fun h => k2 (of_decide_eq_false h))
theorem DK.rdP {o : Oper} {rest : List Oper} {cl : Call} {g : Nat} (args args' : List AV) (p : Prop) [Decidable p] (ho : o.op = .call cl) (hw : wantedA ops fr o = some true) (hcal : cl.callee = .value (.func g))
    (ha : evsA cfg fr cl.args.toList = some args) (h1 : cfg.clone g = none) (h2 : cfg.ext g = none) (h3 : cfg.mode fn g = .reader) (hs : snapsW (snap σ.length 6) σ args = some (args', σ)) (hr : readW c g args' σ = some (.bool (decide p), σ))
    (k1 : p → DK P cfg c fn lo ops rest (putA fr o.dst (.bool true)) σ Q) (k2 : ¬p → DK P cfg c fn lo ops rest (putA fr o.dst (.bool false)) σ Q) : DK P cfg c fn lo ops (o :: rest) fr σ Q :=
  DK.rdB args args' (decide p) ho hw hcal ha h1 h2 h3 hs hr (fun h => k1 (of_decide_eq_true h)) (fun h => k2 (of_decide_eq_false h))
theorem OK.opS {o : Oper} {rest : List Oper} (v : AV) (S : Sto) (hw : wantedA ops fr o = some true) (h : opA P cfg c fn lo fr σ o.op = some (v, S)) (k : OK P cfg c fn lo ops rest (putA fr o.dst v) S Q) : OK P cfg c fn lo ops (o :: rest) fr σ Q := OK.op hw h k
theorem bool_t {p : Prop} [Decidable p] (h : p) : AV.bool true = AV.bool (decide p) := by rw [decide_eq_true h]
theorem bool_f {p : Prop} [Decidable p] (h : ¬p) : AV.bool false = AV.bool (decide p) := by rw [decide_eq_false h]
end
end Go.Abs

/- The collector by numbers; slices of the call's own with symbolic contents. -/
namespace Go.Abs

variable {P : Program} {cfg : Cfg} {fn lo : Nat}

mutual
theorem within_of_sub {K : Nat → Bool} : ∀ {a : AV}, (∀ b ∈ a.blocks, K b = true) → a.within K = true
  | .iface _ v, h => by simp only [AV.blocks] at h; simp only [AV.within]; exact within_of_sub h
  | .agg cs, h => by simp only [AV.blocks] at h; simp only [AV.within]; exact withins_of_sub h
  | .tuple cs, h => by simp only [AV.blocks] at h; simp only [AV.within]; exact withins_of_sub h
  | .func _ f c, h => by
    simp only [AV.blocks, List.mem_append] at h
    simp only [AV.within, withins_of_sub (fun b hb => h b (.inl hb)), withins_of_sub (fun b hb => h b (.inr hb)), Bool.and_self]
  | .list es _, h => by simp only [AV.blocks] at h; simp only [AV.within]; exact withins_of_sub h
  | .ro cs _, h => by simp only [AV.blocks] at h; simp only [AV.within]; exact withins_of_sub h
  | .ptr b _, h => h b (by simp [AV.blocks])
  | .eptr b _ _ _, h => h b (by simp [AV.blocks])
  | .sl b _ _ _, h => h b (by simp [AV.blocks])
  | .bsl b _ _, h => h b (by simp [AV.blocks])
  | .bool _, _ => rfl
  | .int _ _, _ => rfl
  | .str _, _ => rfl
  | .nilIface, _ => rfl
  | .nilFunc, _ => rfl
  | .nilp, _ => rfl
  | .opq, _ => rfl
theorem withins_of_sub {K : Nat → Bool} : ∀ {as : List AV}, (∀ b ∈ AV.blockss as, K b = true) → AV.withins K as = true
  | [], _ => rfl
  | a :: as, h => by
    simp only [AV.blockss, List.mem_append] at h
    simp only [AV.withins, within_of_sub (fun b hb => h b (.inl hb)), withins_of_sub (fun b hb => h b (.inr hb)), Bool.and_self]
end

def blkB (x : Blk) : List Nat := AV.blockss x.parts

def reachC (n0 : Nat) (css : List (List Nat)) : Nat → List Nat → List Nat
  | 0, L => L
  | k + 1, L => reachC n0 css k (addNew n0 (L.flatMap fun b => css.getD b []) L)

theorem reachA_num {n0 : Nat} {σ : Sto} {css : List (List Nat)} (h : σ.map blkB = css) : ∀ {k : Nat} {L : List Nat}, reachA n0 σ k L = reachC n0 css k L
  | 0, _ => rfl
  | k + 1, L => by
    simp only [reachA, reachC]
    rw [reachA_num h]
    congr 2
    subst h
    congr 1
    funext b
    simp only [List.getD, List.getElem?_map]
    cases σ[b]? <;> rfl

def withinC (n0 : Nat) (L : List Nat) : Nat → List (List Nat) → Bool
  | _, [] => true
  | b, x :: css => (!keptA n0 L b || x.all (keptA n0 L)) && withinC n0 L (b + 1) css

theorem withinS_num {n0 : Nat} {L : List Nat} : ∀ {σ : Sto} {b : Nat}, withinC n0 L b (σ.map blkB) = true → withinS n0 L b σ = true
  | [], _, _ => rfl
  | x :: σ, b, h => by
    simp only [List.map_cons, withinC, Bool.and_eq_true, Bool.or_eq_true] at h
    simp only [withinS, Bool.and_eq_true, Bool.or_eq_true]
    refine ⟨?_, withinS_num h.2⟩
    rcases h.1 with h1 | h1
    · exact .inl h1
    · exact .inr (withins_of_sub fun b hb => List.all_eq_true.1 h1 b hb)

def keepC (n0 : Nat) (bs : List Nat) (css : List (List Nat)) : List Nat := reachC n0 css (css.length - n0) (addNew n0 (bs ++ (css.take n0).flatten) [])
def topC (n0 : Nat) (L : List Nat) : Nat := L.foldl (fun a b => max a (b + 1)) n0
def okC (n0 : Nat) (bs : List Nat) (css : List (List Nat)) : Bool := bs.all (keptA n0 (keepC n0 bs css)) && withinC n0 (keepC n0 bs css) 0 css

theorem gcA_num {dead : List Nat} {n0 : Nat} {fr : List AV} {σ : Sto} {bs : List Nat} {css : List (List Nat)} (hd : dead.isEmpty = false) (h1 : AV.blockss (clearA' dead fr) = bs) (h2 : σ.map blkB = css) (h3 : okC n0 bs css = true) :
    gcA dead n0 fr σ = (clearA' dead fr, blankA n0 (keepC n0 bs css) 0 (σ.take (topC n0 (keepC n0 bs css)))) := by
  unfold gcA
  rw [hd]
  simp only [Bool.false_eq_true, if_false]
  have e1 : (σ.take n0).flatMap (fun x => AV.blockss x.parts) = (css.take n0).flatten := by
    subst h2
    rw [← List.map_take, List.flatMap_def]; rfl
  have e2 : σ.length = css.length := by rw [← h2, List.length_map]
  rw [h1, e1, reachA_num h2, e2]
  have h3' := h3
  unfold okC at h3'
  rw [Bool.and_eq_true] at h3'
  rw [if_pos]
  · rfl
  · rw [Bool.and_eq_true]
    refine ⟨withins_of_sub fun b hb => ?_, withinS_num ?_⟩
    · rw [h1] at hb
      exact List.all_eq_true.1 h3'.1 b hb
    · rw [h2]; exact h3'.2

/-- A loop whose rounds leave behind what is told. -/
theorem X.rounds3 {Q : XE → List AV → Sto → Prop} {a : Code} {K : Nat} (dead : List Nat) (hd : cfg.dead fn (firstId a) = dead) (hne : dead.isEmpty = false) (I : Nat → List AV → Sto → Prop)
    (round : ∀ m fr σ, I m fr σ → ∀ k, K ≤ k → X P cfg k fn lo a (clearA' dead fr) σ (XE.then (fun fr' σ' => ∃ E S bs css, clearA' dead fr' = E ∧ σ' = S ∧ AV.blockss E = bs ∧ S.map blkB = css ∧ okC σ.length bs css = true ∧ ∃ m', m' < m ∧ I m' E (blankA σ.length (keepC σ.length bs css) 0 (S.take (topC σ.length (keepC σ.length bs css))))) Q)) :
    ∀ {m : Nat} {fr : List AV} {σ : Sto}, I m fr σ → ∀ {k : Nat}, K + m + 1 ≤ k → X P cfg k fn lo (.loop a) fr σ Q :=
  X.rounds dead hd I fun m fr σ hI k hk => (round m fr σ hI k hk).mono fun x fr' σ' hq => by
    cases x with
    | normal =>
      obtain ⟨E, S, bs, css, h1, h2, h3, h4, h5, h⟩ := hq
      subst h1 h2
      show ∃ m', m' < m ∧ I m' _ _
      rw [gcA_num hne h3 h4 h5]
      exact h
    | exit id => exact hq
    | ret => exact hq

-- slices of the call's own
theorem snapsW_map {α : Type} {g : α → AV} {lo d : Nat} (h : ∀ x σ, snap lo d σ (g x) = some (g x, σ)) : ∀ {xs : List α} {σ : Sto}, snapsW (snap lo d) σ (xs.map g) = some (xs.map g, σ)
  | [], _ => rfl
  | x :: xs, σ => by simp only [List.map_cons, snapsW, h, snapsW_map h]

theorem snap_sl {lo d : Nat} {σ : Sto} {b g off len : Nat} : snap lo (d + 1) σ (.sl b g off len) = (match σ[b]? with
      | some (.rows es g' sz fz) =>
        if g' = g ∧ off + len ≤ es.length ∧ (fz = true ∨ lo ≤ b) then
          match snapsW (snap lo d) (σ.set b (.rows es g' sz true)) ((es.drop off).take len) with
          | some (es', σ') => some (.list es' false, σ')
          | none => none
        else none
      | _ => none) := rfl

theorem gives_sl {α : Type} {g : α → AV} (hg : ∀ x σ, snap 0 5 σ (g x) = some (g x, σ)) (hf : ∀ x, (g x).free = true) {rs : Array ResultVar} {fr : List AV} {σ : Sto} {b n sz : Nat} {ys : List α} (h1 : resultsA P σ fr rs.toList = some [.sl b n 0 ys.length]) (h2 : σ[b]? = some (.rows (ys.map g) n sz false)) :
    givesA P 0 rs fr σ = some (.list (ys.map g) false) := by
  unfold givesA
  rw [h1]
  have e1 : ((ys.map g).drop 0).take ys.length = ys.map g := by rw [List.drop_zero]; exact List.take_of_length_le (by simp)
  have e2 : snap 0 6 σ (.sl b n 0 ys.length) = some (.list (ys.map g) false, σ.set b (.rows (ys.map g) n sz true)) := by
    rw [snap_sl]
    simp only [h2]
    rw [if_pos (by simp), e1, snapsW_map hg]
  simp only [tupleA, e2, AV.free, frees_map hf, if_true]

theorem ap_sl {α : Type} {g : α → AV} {c : Caller} {caller lo' : Nat} {fr : List AV} {σ : Sto} {o : Op} {cl : Call} {sT xT elem : TypeId} {by_ : Nat} {z : AV} {b n : Nat} {ys : List α} {v : α} {ex : Bool} (ho : o = .call cl) (hc : cl.callee = .builtin .append) (hts : cl.argTypes[0]? = some sT) (htx : cl.argTypes[1]? = some xT)
    (hus : P.underlying sT = some (.slice elem)) (hux : P.underlying xT = some (.slice elem)) (hsz : szOf P elem = some 1) (hby : byOf P elem = some by_) (hz : zeroA P elem = some z) (hzl : z.cells.length = 1) (hb0 : 0 < by_) (hcell : ∀ x, (g x).cells = [g x]) (hisc : ∀ x, (g x).isCell = true)
    (ha : evsA cfg fr cl.args.toList = some [.sl b n 0 ys.length, .list [g v] ex]) (h2 : σ[b]? = some (.rows (ys.map g) n 1 false)) (hlo : lo' ≤ b) (hbd : (ys.length + 1 + 256) * by_ ≤ 2 ^ 46) {S : Sto} (hS : σ.set b (.rows ((ys ++ [v]).map g) (n + 1) 1 false) = S) :
    opA P cfg c caller lo' fr σ o = some (.sl b (n + 1) 0 (ys.length + 1), S) := by
  subst ho hS
  simp only [opA, callA, ha, hc, appendA, hts, htx, hus, hux, hsz, hby, hz, elemsA]
  simp only [hzl, hb0, and_self, if_true, Nat.lt_add_one, Nat.zero_lt_one, List.all_cons, List.all_nil, hcell, hisc, List.length_singleton, beq_self_eq_true, Bool.and_self, h2, hlo, Nat.zero_add, List.length_map, Nat.le_refl, List.isEmpty_cons, Bool.false_eq_true, if_false, hbd, List.map_append, List.map_cons, List.map_nil]

theorem mk_op {α : Type} {g : α → AV} {c : Caller} {lo' : Nat} {fr : List AV} {σ : Sto} {o : Op} {t elem : TypeId} {l cp : Operand} {n by_ : Nat} {x : α} (ho : o = .makeSlice t l cp) (hu : P.underlying t = some (.slice elem)) (hsz : szOf P elem = some 1) (hby : byOf P elem = some by_) (hz : zeroA P elem = some (g x)) (hl : (g x).cells.length = 1)
    (h1 : evA cfg fr l = some (.int .i64 (n : Int))) (h2 : evA cfg fr cp = some (.int .i64 (n : Int))) (hn : n < 2 ^ 40) (hb : by_ * n ≤ 2 ^ 46) {S : Sto} (hS : σ ++ [.rows ((List.replicate n x).map g) 0 1 false] = S) {b : Nat} (hbb : σ.length = b) :
    opA P cfg c fn lo' fr σ o = some (.sl b 0 0 n, S) := by
  subst ho hS hbb
  simp only [opA, opMakeSlice, h1, h2, makeSliceA, hu, hsz, hby, hz]
  rw [if_pos (by refine ⟨by omega, by omega, by omega, by rw [Int.toNat_natCast]; exact hb, hl, by omega⟩)]
  simp only [Int.toNat_natCast, List.map_replicate]

theorem idx_sl {α : Type} {g : α → AV} {c : Caller} {lo' : Nat} {fr : List AV} {σ : Sto} {o : Op} {t elem : TypeId} {x i : Operand} {sz b gn len : Nat} {k : IntKind} {n : Int} {xs : List α} {fz : Bool} (ho : o = .indexAddr t x i) (hu : P.underlying t = some (.slice elem)) (hs : szOf P elem = some sz)
    (hx : evA cfg fr x = some (.sl b gn 0 len)) (hi : evA cfg fr i = some (.int k n)) (hb : σ[b]? = some (.rows (xs.map g) gn sz fz)) (hn : 0 ≤ n) (he : n < len) : opA P cfg c fn lo' fr σ o = some (.eptr b gn n.toNat 0, σ) := by
  subst ho
  simp [opA, op2, hx, hi, indexAddrA, hu, hs, hn, he, hb, sameA]

theorem load_ep {α : Type} {g : α → AV} {d : α} {c : Caller} {lo' : Nat} {fr : List AV} {σ : Sto} {o : Op} {t : TypeId} {x : Operand} {sz b gn i : Nat} {xs : List α} {fz : Bool} {v : AV} (ho : o = .load t x) (hx : evA cfg fr x = some (.eptr b gn i 0)) (hb : σ[b]? = some (.rows (xs.map g) gn sz fz)) (hi : i < xs.length) (hr : readA P t (g (xs.getD i d)).cells 0 = some v) :
    opA P cfg c fn lo' fr σ o = some (v, σ) := by
  subst ho
  have e : xs.getD i d = xs[i] := by simp [List.getD, hi]
  rw [e] at hr
  simp [opA, op1, hx, loadA, placeA, hb, hi, hr, sameA]

theorem st_ep {α : Type} {g : α → AV} {d y : α} {c : Caller} {lo' : Nat} {fr : List AV} {σ : Sto} {o : Op} {t : TypeId} {x v : Operand} {sz b gn i : Nat} {xs : List α} {w : AV} (ho : o = .store t x v) (hx : evA cfg fr x = some (.eptr b gn i 0)) (hv : evA cfg fr v = some w) (hb : σ[b]? = some (.rows (xs.map g) gn sz false)) (hi : i < xs.length) (hlo : lo' ≤ b)
    (hsz : szOf P t = some 1) (hw : w.cells.length = 1) (hwc : w.cells.all AV.isCell = true) (hl : (g (xs.getD i d)).cells.length = 1) (hr : reshape (g (xs.getD i d)) (splice (g (xs.getD i d)).cells 0 w.cells) = g y) {S : Sto} (hS : σ.set b (.rows ((xs.set i y).map g) gn sz false) = S) :
    opA P cfg c fn lo' fr σ o = some (undefA, S) := by
  subst ho hS
  have e : xs.getD i d = xs[i] := by simp [List.getD, hi]
  rw [e] at hr hl
  simp [opA, opStore, hx, hv, storeA, hsz, hw, hwc, hb, hlo, hi, hl, hr, List.map_set]

theorem rem_op {c : Caller} {lo' : Nat} {fr : List AV} {σ : Sto} {o : Op} {t t' : TypeId} {x y : Operand} {a b : Int} (ho : o = .binOp .rem t x y t') (hx : evA cfg fr x = some (.int .i64 a)) (hy : evA cfg fr y = some (.int .i64 b)) (hb : binA P .rem t x y (.int .i64 a) (.int .i64 b) = some (.int .i64 (Int.tmod a b))) :
    opA P cfg c fn lo' fr σ o = some (.int .i64 (Int.tmod a b), σ) := by
  subst ho
  simp [opA, op2, hx, hy, hb, sameA]

/-- A place in an array that a pointer shows. -/
theorem arr_addr {c : Caller} {lo' : Nat} {fr : List AV} {σ : Sto} {o : Op} {t elem : TypeId} {x i : Operand} {b off len n : Nat} (ho : o = .indexAddr t x i) (hu : P.underlying t = some (.array len elem)) (hs : szOf P elem = some 1)
    (hx : evA cfg fr x = some (.ptr b off)) (hi : evA cfg fr i = some (.int .i64 (n : Int))) (hn : n < len) : opA P cfg c fn lo' fr σ o = some (.ptr b (off + n), σ) := by
  subst ho
  have : (n : Int) < (len : Int) := by omega
  simp [opA, op2, hx, hi, indexAddrA, hu, hs, this, sameA, moveA]

theorem load_at {c : Caller} {lo' : Nat} {fr : List AV} {σ : Sto} {o : Op} {t : TypeId} {x : Operand} {b off : Nat} {cs : List AV} {fz : Bool} {v : AV} (ho : o = .load t x) (hx : evA cfg fr x = some (.ptr b off)) (hb : σ[b]? = some (.box cs fz)) (ha : isAggO P t = some false) (hv : cs[off]? = some v) :
    opA P cfg c fn lo' fr σ o = some (v, σ) := by
  subst ho
  simp [opA, op1, hx, loadA, placeA, hb, readA, ha, hv, sameA]
end Go.Abs

/- Calls of what a variable holds. -/
namespace Go.Abs

variable {P : Program} {cfg : Cfg} {fn lo : Nat}
section
variable {c : Caller} {ops : Array Oper} {fr : List AV} {σ : Sto} {Q : List AV → Sto → Prop}
theorem OK.rdQ {o : Oper} {rest : List Oper} {cl : Call} {g : Nat} {f : Operand} (args args' : List AV) (p : Prop) [Decidable p] (ho : o.op = .call cl) (hw : wantedA ops fr o = some true) (hcal : cl.callee = .value f) (hf : evA cfg fr f = some (.func (.func g) [] []))
    (ha : evsA cfg fr cl.args.toList = some args) (h1 : cfg.clone g = none) (h2 : cfg.ext g = none) (h3 : cfg.mode fn g = .reader) (hs : snapsW (snap lo 6) σ args = some (args', σ)) (hr : readW c g args' σ = some (.bool (decide p), σ))
    (k1 : p → OK P cfg c fn lo ops rest (putA fr o.dst (.bool true)) σ Q) (k2 : ¬p → OK P cfg c fn lo ops rest (putA fr o.dst (.bool false)) σ Q) : OK P cfg c fn lo ops (o :: rest) fr σ Q := by
  refine OK.readerB (first := []) (cap := []) (decide p) ho hw hcal hf ha h1 h2 h3 (by simpa using hs) hr (fun h => k1 (of_decide_eq_true h)) (fun h => k2 (of_decide_eq_false h))
end
end Go.Abs

/- More fuel, the same answer. -/
namespace Go.Abs

variable {P : Program} {cfg : Cfg}

def ExecLe (r s : Exec) : Prop := ∀ fn lo c fr σ x, r fn lo c fr σ = some x → s fn lo c fr σ = some x

theorem callW_le {r s : Exec} (h : ExecLe r s) : CallLe (callW P r) (callW P s) := by
  intro f args lo σ x e
  unfold callW at e ⊢
  split at e
  · split at e
    · rename_i b hb
      unfold finA at e ⊢
      cases hr : r f lo b _ σ with
      | none => rw [hr] at e; cases e
      | some q => rw [hr] at e; simp only [h _ _ _ _ _ _ hr]; exact e
    · cases e
  · cases e

theorem execW_le {r s : Exec} (h : ExecLe r s) : ExecLe (execW P cfg r) (execW P cfg s) := by
  intro fn lo c fr σ x e
  have hc := callW_le (P := P) h
  cases c with
  | skip => exact e
  | label l => exact e
  | region i ops d =>
    cases d with
    | false =>
      simp only [execW, normW] at e ⊢
      cases ho : opsA P cfg (callW P r) fn lo ops ops.toList fr σ with
      | none => rw [ho] at e; cases e
      | some q => rw [ho] at e; rw [opsA_le hc ho]; exact e
    | true =>
      simp only [execW, normW, regionA] at e ⊢
      split at e
      · rename_i hd
        rw [if_pos hd]
        cases ho : drawA P cfg (callW P r) fn lo ops ops.toList [] fr σ with
        | none => rw [ho] at e; cases e
        | some q => rw [ho] at e; rw [drawA_le hc ho]; exact e
      · cases e
  | seq a b =>
    simp only [execW] at e ⊢
    cases ha : r fn lo a fr σ with
    | none => rw [ha] at e; cases e
    | some q =>
      obtain ⟨y, fr', σ'⟩ := q
      rw [ha] at e
      rw [h _ _ _ _ _ _ ha]
      cases y with
      | normal => exact h _ _ _ _ _ _ e
      | exit id => exact e
      | ret => exact e
  | cond o a b =>
    simp only [execW, condW] at e ⊢
    split at e
    · exact h _ _ _ _ _ _ e
    · exact h _ _ _ _ _ _ e
    · cases e
  | block i b =>
    simp only [execW] at e ⊢
    cases ha : r fn lo b fr σ with
    | none => rw [ha] at e; cases e
    | some q => rw [ha] at e; rw [h _ _ _ _ _ _ ha]; exact e
  | loop b =>
    simp only [execW] at e ⊢
    cases ha : r fn lo b (clearA' (cfg.dead fn (firstId b)) fr) σ with
    | none => rw [ha] at e; cases e
    | some q =>
      obtain ⟨y, fr', σ'⟩ := q
      rw [ha] at e
      rw [h _ _ _ _ _ _ ha]
      cases y with
      | normal => exact h _ _ _ _ _ _ e
      | exit id => exact e
      | ret => exact e
  | exit id => exact e
  | scope b => exact h _ _ _ _ _ _ e
  | ret => exact e
  | rangeFunc f p a b => exact e
  | goto l => exact e
  | refuse w => exact e

theorem exec_le1 : ∀ k, ExecLe (exec P cfg k) (exec P cfg (k + 1))
  | 0 => fun _ _ _ _ _ _ e => by cases e
  | k + 1 => execW_le (exec_le1 k)

theorem exec_le {k k' : Nat} (h : k ≤ k') : ExecLe (exec P cfg k) (exec P cfg k') := by
  induction k' with
  | zero => rw [Nat.le_zero.1 h]; exact fun _ _ _ _ _ _ e => e
  | succ k' ih =>
    rcases Nat.lt_or_ge k (k' + 1) with h1 | h1
    · exact fun fn lo c fr σ x e => exec_le1 k' _ _ _ _ _ _ (ih (by omega) _ _ _ _ _ _ e)
    · rw [show k = k' + 1 by omega]; exact fun _ _ _ _ _ _ e => e

theorem call_le {k k' : Nat} (h : k ≤ k') : CallLe (callW P (exec P cfg k)) (callW P (exec P cfg k')) := callW_le (exec_le h)

theorem readW_le {k k' : Nat} (h : k ≤ k') {f : Nat} {args : List AV} {r : AV} {σ σ' : Sto} (e : readW (callW P (exec P cfg k)) f args σ = some (r, σ)) : readW (callW P (exec P cfg k')) f args σ' = some (r, σ') := by
  unfold readW at e ⊢
  split at e
  · rename_i hf
    rw [if_pos hf]
    cases hc : callW P (exec P cfg k) f args 0 [] with
    | none => rw [hc] at e; cases e
    | some q =>
      rw [hc] at e
      rw [call_le h _ _ _ _ _ hc]
      simp only at e ⊢
      split at e
      · split at e
        · rename_i hr
          simp only [Option.some.injEq, Prod.mk.injEq, and_true] at e
          subst e
          simp only [hr, if_true]
        · cases e
      · cases e
  · cases e
end Go.Abs
