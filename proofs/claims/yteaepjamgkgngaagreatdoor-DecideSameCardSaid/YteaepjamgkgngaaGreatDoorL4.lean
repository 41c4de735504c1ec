/-
  The interpreter over pure values is sound: what it computes, every call of the model does. No condition but those that each theorem names.
-/
import Derived.Test.YteaepjamgkgngaaGreatDoorL3
set_option linter.unusedSimpArgs false
set_option linter.unusedVariables false

/- Calls that may write: the callee is walked, its arguments and answer frozen. -/
namespace Go.Abs

variable {P : Program} {cfg : Cfg} {fn lo : Nat}

theorem st_op {kk : Nat} {fr : List AV} {σ σ1 : Sto} {o : Op} {cl : Call} {g : Nat} {first cap args args' : List AV} {shut : List (Nat × Nat × Nat)} {f : Operand} {fnn : Func} {b : Code} {QQ : AV → Sto → Prop} (ho : o = .call cl) (hcal : cl.callee = .value f) (hf : evA cfg fr f = some (.func (.func g) first cap))
    (ha : evsA cfg fr cl.args.toList = some args) (h1 : cfg.clone g = none) (h2 : cfg.ext g = none) (h3 : cfg.mode fn g = .state shut) (hs : snapsW (snap lo 6) σ (first ++ args ++ cap) = some (args', σ1)) (hfn : P.funcs[g]? = some fnn) (hb : fnn.body = some b)
    (h : X P cfg kk g lo b (args' ++ List.replicate (fnn.ntmps - args'.length) undefA) σ1 (fun x fr' σ' => x.leaves = true ∧ ∃ vs σ3 r σ4, resultsA P σ' fr' fnn.results.toList = some vs ∧ shutA lo σ' args' shut = some σ3 ∧ snap lo 6 σ3 (tupleA vs) = some (r, σ4) ∧ QQ r σ4)) :
    ∃ r σ4, opA P cfg (callW P (exec P cfg kk)) fn lo fr σ o = some (r, σ4) ∧ QQ r σ4 := by
  obtain ⟨x, fr', σ', e, hx, vs, σ3, r, σ4, hv, hsh, hsn, hk⟩ := h
  refine ⟨r, σ4, ?_, hk⟩
  subst ho
  have hcall : callW P (exec P cfg kk) g args' lo σ1 = some (tupleA vs, σ') := by
    unfold callW
    simp only [hfn, hb, e]
    cases x with
    | exit id => cases hx
    | normal => simp only [finA, hv, Option.map_some]
    | ret => simp only [finA, hv, Option.map_some]
  simp only [opA, callA, ha, hcal, hf, enterA, h1, h2, h3, hs, hcall, hsh, hsn]

section
variable {ops : Array Oper} {fr : List AV} {σ σ1 : Sto} {Q : List AV → Sto → Prop} {o : Oper} {rest : List Oper}
theorem OK.st {kk : Nat} {cl : Call} {g : Nat} {first cap args args' : List AV} {shut : List (Nat × Nat × Nat)} {f : Operand} {fnn : Func} {b : Code} (ho : o.op = .call cl) (hw : wantedA ops fr o = some true) (hcal : cl.callee = .value f) (hf : evA cfg fr f = some (.func (.func g) first cap))
    (ha : evsA cfg fr cl.args.toList = some args) (h1 : cfg.clone g = none) (h2 : cfg.ext g = none) (h3 : cfg.mode fn g = .state shut) (hs : snapsW (snap lo 6) σ (first ++ args ++ cap) = some (args', σ1)) (hfn : P.funcs[g]? = some fnn) (hb : fnn.body = some b)
    (h : X P cfg kk g lo b (args' ++ List.replicate (fnn.ntmps - args'.length) undefA) σ1 (fun x fr' σ' => x.leaves = true ∧ ∃ vs σ3 r σ4, resultsA P σ' fr' fnn.results.toList = some vs ∧ shutA lo σ' args' shut = some σ3 ∧ snap lo 6 σ3 (tupleA vs) = some (r, σ4) ∧ OK P cfg (callW P (exec P cfg kk)) fn lo ops rest (putA fr o.dst r) σ4 Q)) :
    OK P cfg (callW P (exec P cfg kk)) fn lo ops (o :: rest) fr σ Q := by
  obtain ⟨r, σ4, e, hk⟩ := st_op (QQ := fun r σ4 => OK P cfg (callW P (exec P cfg kk)) fn lo ops rest (putA fr o.dst r) σ4 Q) ho hcal hf ha h1 h2 h3 hs hfn hb h
  exact OK.op hw e hk
theorem DK.st {kk : Nat} {cl : Call} {g : Nat} {first cap args args' : List AV} {shut : List (Nat × Nat × Nat)} {f : Operand} {fnn : Func} {b : Code} (l0 : Nat) (hl0 : (if classA cfg fn o.op = 2 then lo else σ.length) = l0) (ho : o.op = .call cl) (hw : wantedA ops fr o = some true) (hcal : cl.callee = .value f) (hf : evA cfg fr f = some (.func (.func g) first cap))
    (ha : evsA cfg fr cl.args.toList = some args) (h1 : cfg.clone g = none) (h2 : cfg.ext g = none) (h3 : cfg.mode fn g = .state shut) (hs : snapsW (snap l0 6) σ (first ++ args ++ cap) = some (args', σ1)) (hfn : P.funcs[g]? = some fnn) (hb : fnn.body = some b)
    (h : X P cfg kk g l0 b (args' ++ List.replicate (fnn.ntmps - args'.length) undefA) σ1 (fun x fr' σ' => x.leaves = true ∧ ∃ vs σ3 r σ4, resultsA P σ' fr' fnn.results.toList = some vs ∧ shutA l0 σ' args' shut = some σ3 ∧ snap l0 6 σ3 (tupleA vs) = some (r, σ4) ∧ DK P cfg (callW P (exec P cfg kk)) fn lo ops rest (putA fr o.dst r) σ4 Q)) :
    DK P cfg (callW P (exec P cfg kk)) fn lo ops (o :: rest) fr σ Q := by
  obtain ⟨r, σ4, e, hk⟩ := st_op (QQ := fun r σ4 => DK P cfg (callW P (exec P cfg kk)) fn lo ops rest (putA fr o.dst r) σ4 Q) ho hcal hf ha h1 h2 h3 hs hfn hb h
  exact DK.op hw (by rw [hl0]; exact e) hk
theorem DK.opS {c : Caller} (v : AV) (S : Sto) (hw : wantedA ops fr o = some true) (h : opA P cfg c fn (if classA cfg fn o.op = 2 then lo else σ.length) fr σ o.op = some (v, S)) (k : DK P cfg c fn lo ops rest (putA fr o.dst v) S Q) : DK P cfg c fn lo ops (o :: rest) fr σ Q := DK.op hw h k
end

/-- Whatever the memory, a call answers so: the end of a law. -/
theorem call_of {k f : Nat} {fnn : Func} {b : Code} {args : List AV} {r : AV} (hf : P.funcs[f]? = some fnn) (hb : fnn.body = some b)
    (h : X P cfg k f 0 b (args ++ List.replicate (fnn.ntmps - args.length) undefA) [] (fun x fr' σ' => x.leaves = true ∧ resultsA P σ' fr' fnn.results.toList = some [r])) :
    ∃ σ', callF P cfg k f args 0 [] = some (r, σ') := by
  obtain ⟨x, fr', σ', e, hx, hv⟩ := h
  refine ⟨σ', ?_⟩
  unfold callF callW
  simp only [hf, hb, e]
  cases x with
  | exit id => cases hx
  | normal => simp only [finA, hv, Option.map_some, tupleA]
  | ret => simp only [finA, hv, Option.map_some, tupleA]
end Go.Abs

/- An interpreter that looks up the answers of some readers in a table: for calls of the same thing over and over. -/
namespace Go.Abs

variable {P : Program} {cfg : Cfg}

mutual
def eqA : AV → AV → Bool
  | .bool a, .bool b => a == b
  | .int k a, .int l b => decide (k = l) && a == b
  | .agg as, .agg bs => eqsA as bs
  | .list as x, .list bs y => eqsA as bs && x == y
  | .nilIface, .nilIface => true
  | .nilp, .nilp => true
  | _, _ => false
def eqsA : List AV → List AV → Bool
  | [], [] => true
  | a :: as, b :: bs => eqA a b && eqsA as bs
  | _, _ => false
end

mutual
theorem eqA_eq : ∀ {a b : AV}, eqA a b = true → a = b
  | .bool a, b, h => by cases b <;> simp_all [eqA]
  | .int k a, b, h => by cases b <;> simp_all [eqA]
  | .agg as, b, h => by
    cases b with
    | agg bs => simp only [eqA] at h; rw [eqsA_eq h]
    | _ => simp [eqA] at h
  | .list as x, b, h => by
    cases b with
    | list bs y => simp only [eqA, Bool.and_eq_true, beq_iff_eq] at h; rw [eqsA_eq h.1, h.2]
    | _ => simp [eqA] at h
  | .nilIface, b, h => by cases b <;> simp_all [eqA]
  | .nilp, b, h => by cases b <;> simp_all [eqA]
  | .str _, _, h => by simp [eqA] at h
  | .iface _ _, _, h => by simp [eqA] at h
  | .tuple _, _, h => by simp [eqA] at h
  | .func _ _ _, _, h => by simp [eqA] at h
  | .nilFunc, _, h => by simp [eqA] at h
  | .ptr _ _, _, h => by simp [eqA] at h
  | .eptr _ _ _ _, _, h => by simp [eqA] at h
  | .ro _ _, _, h => by simp [eqA] at h
  | .sl _ _ _ _, _, h => by simp [eqA] at h
  | .bsl _ _ _, _, h => by simp [eqA] at h
  | .opq, _, h => by simp [eqA] at h
theorem eqsA_eq : ∀ {a b : List AV}, eqsA a b = true → a = b
  | [], b, h => by cases b <;> simp_all [eqsA]
  | a :: as, b, h => by
    cases b with
    | nil => simp [eqsA] at h
    | cons b bs => simp only [eqsA, Bool.and_eq_true] at h; rw [eqA_eq h.1, eqsA_eq h.2]
end

abbrev Tab := Nat → List AV → Option AV

def callT (tab : Tab) (call : Caller) : Caller := fun f args lo σ =>
  match tab f args with
  | some r => some (r, [])
  | none => call f args lo σ

def execWT (P : Program) (tab : Tab) (cfg : Cfg) (rec : Exec) (fn lo : Nat) (c : Code) (fr : List AV) (σ : Sto) : Option (XE × List AV × Sto) :=
  match c with
  | .region _ ops false => normW (opsA P cfg (callT tab (callW P rec)) fn lo ops ops.toList fr σ)
  | .region _ ops true => normW (regionA P cfg (callT tab (callW P rec)) fn lo ops fr σ)
  | c => execW P cfg rec fn lo c fr σ

def execT (P : Program) (tab : Tab) (cfg : Cfg) : (fuel : Nat) → Exec
  | 0 => fun _ _ _ _ _ => none
  | k + 1 => execWT P tab cfg (execT P tab cfg k)

/-- Calls of readers give the same, all others more. -/
def CallR (cfg : Cfg) (c d : Caller) : Prop := ∀ caller f, (cfg.mode caller f = .reader → ∀ args σ x, readW c f args σ = some x → readW d f args σ = some x) ∧ (cfg.mode caller f ≠ .reader → ∀ args lo σ x, c f args lo σ = some x → d f args lo σ = some x)

theorem enterA_R {c d : Caller} (h : CallR cfg c d) {caller lo f : Nat} {σ : Sto} {args : List AV} {x : AV × Sto} (e : enterA P cfg c caller lo σ f args = some x) : enterA P cfg d caller lo σ f args = some x := by
  have hh := h caller f
  unfold enterA at e ⊢
  split
  · rename_i hc; rw [hc] at e; exact e
  · rename_i hc; rw [hc] at e; simp only at e
    split
    · rename_i he; rw [he] at e; exact e
    · rename_i he; rw [he] at e; simp only at e
      split
      · rename_i hm; rw [hm] at e; exact hh.2 (by rw [hm]; simp) _ _ _ _ e
      · rename_i hm; rw [hm] at e; simp only at e
        split
        · rename_i hs; rw [hs] at e; exact hh.1 hm _ _ _ e
        · rename_i hs; rw [hs] at e; cases e
      · rename_i hm; rw [hm] at e; simp only at e
        split
        · rename_i hs; rw [hs] at e; exact hh.2 (by rw [hm]; simp) _ _ _ _ e
        · rename_i hs; rw [hs] at e; cases e
      · rename_i hm; rw [hm] at e; simp only at e
        split
        · rename_i hs; rw [hs] at e; simp only at e
          cases hcc : c f _ _ _ with
          | none => rw [hcc] at e; cases e
          | some q => rw [hh.2 (by rw [hm]; simp) _ _ _ _ hcc]; rw [hcc] at e; exact e
        · rename_i hs; rw [hs] at e; cases e

theorem opA_R {c d : Caller} (h : CallR cfg c d) {caller lo : Nat} {fr : List AV} {σ : Sto} {o : Op} {x : AV × Sto} (e : opA P cfg c caller lo fr σ o = some x) : opA P cfg d caller lo fr σ o = some x := by
  cases o
  case call cl =>
    simp only [opA] at e ⊢
    unfold callA at e ⊢
    split
    · rename_i ha; rw [ha] at e; cases e
    · rename_i args ha
      rw [ha] at e
      simp only at e
      split
      · rename_i b hb; rw [hb] at e; exact e
      · rename_i x' hx
        rw [hx] at e; simp only at e
        split
        · rename_i he; rw [he] at e; exact enterA_R h e
        · rename_i hn; split at e
          · rename_i he; exact absurd he (hn _ _ _)
          · cases e
      · rename_i hx; rw [hx] at e; cases e
  all_goals exact e

theorem opsA_R {c d : Caller} (h : CallR cfg c d) {caller lo : Nat} {ops : Array Oper} : ∀ {l : List Oper} {fr : List AV} {σ : Sto} {x : List AV × Sto}, opsA P cfg c caller lo ops l fr σ = some x → opsA P cfg d caller lo ops l fr σ = some x
  | [], _, _, _, e => e
  | o :: rest, fr, σ, x, e => by
    simp only [opsA] at e ⊢
    split at e
    · split at e
      · rename_i ho
        simp only [opA_R h ho]
        exact opsA_R h e
      · cases e
    · exact opsA_R h e
    · cases e

theorem drawA_R {c d : Caller} (h : CallR cfg c d) {fn lo : Nat} {ops : Array Oper} : ∀ {l : List Oper} {tr : List (Option Nat)} {fr : List AV} {σ : Sto} {x : List (Option Nat) × List AV × Sto}, drawA P cfg c fn lo ops l tr fr σ = some x → drawA P cfg d fn lo ops l tr fr σ = some x
  | [], _, _, _, _, e => e
  | o :: rest, tr, fr, σ, x, e => by
    simp only [drawA] at e ⊢
    split at e
    · split at e
      · rename_i ho
        simp only [opA_R h ho]
        exact drawA_R h e
      · cases e
    · exact drawA_R h e
    · cases e

/-- A table whose answers are the readers' own. -/
def TabOk (P : Program) (cfg : Cfg) (tab : Tab) (K : Nat) : Prop := ∀ f args r, tab f args = some r → (∀ caller, cfg.mode caller f = .reader) ∧ readW (callW P (exec P cfg K)) f args [] = some (r, []) ∧ ∃ s, snap 0 6 [] r = some (r, s)

theorem callT_R {tab : Tab} {K : Nat} (ht : TabOk P cfg tab K) {r s : Exec} (h : ExecLe r s) (hK : CallLe (callW P (exec P cfg K)) (callW P s)) : CallR cfg (callT tab (callW P r)) (callW P s) := by
  have hc := callW_le (P := P) h
  intro caller f
  constructor
  · intro _ args σ x e
    unfold readW at e ⊢
    split at e
    · rename_i hf
      rw [if_pos hf]
      unfold callT at e
      cases hq : tab f args with
      | none =>
        rw [hq] at e
        simp only at e
        cases hcc : callW P r f args 0 [] with
        | none => rw [hcc] at e; cases e
        | some q => rw [hc _ _ _ _ _ hcc]; rw [hcc] at e; exact e
      | some a =>
        rw [hq] at e
        simp only at e
        obtain ⟨_, h2, t, h3⟩ := ht f args a hq
        rw [h3] at e
        simp only at e
        unfold readW at h2
        rw [if_pos hf] at h2
        cases hcc : callW P (exec P cfg K) f args 0 [] with
        | none => rw [hcc] at h2; cases h2
        | some q =>
          rw [hK _ _ _ _ _ hcc]
          rw [hcc] at h2
          simp only at h2 ⊢
          split at h2
          · split at h2
            · rename_i hfr
              simp only [Option.some.injEq, Prod.mk.injEq, and_true] at h2
              subst h2
              rw [if_pos hfr] at e
              rw [if_pos hfr]
              exact e
            · cases h2
          · cases h2
    · cases e
  · intro hm args lo σ x e
    unfold callT at e
    cases hq : tab f args with
    | none => rw [hq] at e; exact hc _ _ _ _ _ e
    | some a => exact absurd ((ht f args a hq).1 caller) hm

theorem execT_ok {tab : Tab} {K : Nat} (ht : TabOk P cfg tab K) : ∀ k, ExecLe (execT P tab cfg k) (exec P cfg (K + k))
  | 0 => fun _ _ _ _ _ _ e => by cases e
  | k + 1 => by
    have ih := execT_ok ht k
    have hR := callT_R ht ih (call_le (Nat.le_add_right K k))
    intro fn lo c fr σ x e
    have hgen : execW P cfg (execT P tab cfg k) fn lo c fr σ = some x → exec P cfg (K + (k + 1)) fn lo c fr σ = some x := fun e => execW_le ih _ _ _ _ _ _ e
    cases c with
    | region i ops d =>
      cases d with
      | false =>
        show execW P cfg (exec P cfg (K + k)) fn lo (.region i ops false) fr σ = some x
        simp only [execT, execWT, normW] at e
        simp only [execW, normW]
        cases ho : opsA P cfg (callT tab (callW P (execT P tab cfg k))) fn lo ops ops.toList fr σ with
        | none => rw [ho] at e; cases e
        | some q => rw [ho] at e; rw [opsA_R hR ho]; exact e
      | true =>
        show execW P cfg (exec P cfg (K + k)) fn lo (.region i ops true) fr σ = some x
        simp only [execT, execWT, normW, regionA] at e
        simp only [execW, normW, regionA]
        split at e
        · rename_i hd
          rw [if_pos hd]
          cases ho : drawA P cfg (callT tab (callW P (execT P tab cfg k))) fn lo ops ops.toList [] fr σ with
          | none => rw [ho] at e; cases e
          | some q => rw [ho] at e; rw [drawA_R hR ho]; exact e
        · cases e
    | _ => exact hgen e

theorem readT_ok {tab : Tab} {K k : Nat} (ht : TabOk P cfg tab K) {f : Nat} {args : List AV} {r : AV} {σ σ' : Sto} (e : readW (callW P (execT P tab cfg k)) f args σ = some (r, σ)) {k' : Nat} (hk : K + k ≤ k') : readW (callW P (exec P cfg k')) f args σ' = some (r, σ') := by
  have h := callW_le (P := P) (execT_ok ht k)
  refine readW_le hk (σ := σ) ?_
  unfold readW at e ⊢
  split at e
  · rename_i hf
    rw [if_pos hf]
    cases hcc : callW P (execT P tab cfg k) f args 0 [] with
    | none => rw [hcc] at e; cases e
    | some q => rw [h _ _ _ _ _ hcc]; rw [hcc] at e; exact e
  · cases e
end Go.Abs

/- Typed values hold no address. -/
namespace Go.Abs

variable {P : Program}

theorem frees_append : ∀ (as bs : List AV), AV.frees (as ++ bs) = (AV.frees as && AV.frees bs)
  | [], bs => by simp [AV.frees]
  | a :: as, bs => by simp [AV.frees, frees_append as bs, Bool.and_assoc]

theorem frees_mem : ∀ {as : List AV}, (∀ a ∈ as, a.free = true) → AV.frees as = true
  | [], _ => rfl
  | a :: as, h => by
    have ih : AV.frees as = true := frees_mem fun b hb => h b (List.mem_cons_of_mem _ hb)
    simp only [AV.frees, h a (List.mem_cons_self), ih, Bool.and_self]

theorem contig_free {cs : List AV} : ∀ {fs : List Field} {n m : Nat}, contig P fs n = some m → (∀ f ∈ fs, AV.frees ((cs.drop f.offset).take (P.cellsOf f.type)) = true) → n ≤ m ∧ AV.frees ((cs.drop n).take (m - n)) = true
  | [], n, m, h, _ => by
    simp only [contig, Option.some.injEq] at h
    subst h
    exact ⟨Nat.le_refl _, by simp [AV.frees]⟩
  | f :: fs, n, m, h, hp => by
    simp only [contig] at h
    split at h
    · rename_i ho
      subst ho
      obtain ⟨h1, h2⟩ := contig_free h (fun f' hf' => hp f' (by simp [hf']))
      refine ⟨by omega, ?_⟩
      have e : (cs.drop f.offset).take (m - f.offset) = (cs.drop f.offset).take (P.cellsOf f.type) ++ (cs.drop (f.offset + P.cellsOf f.type)).take (m - (f.offset + P.cellsOf f.type)) := by
        rw [show m - f.offset = P.cellsOf f.type + (m - (f.offset + P.cellsOf f.type)) by omega, List.take_add, List.drop_drop]
      rw [e, frees_append, hp f (by simp), h2]; rfl
    · cases h

theorem rows_free {cs : List AV} {w : Nat} : ∀ {n : Nat}, (∀ i < n, AV.frees ((cs.drop (i * w)).take w) = true) → AV.frees (cs.take (n * w)) = true
  | 0, _ => by simp [AV.frees]
  | n + 1, h => by
    have ih := rows_free (n := n) (fun i hi => h i (by omega))
    rw [Nat.succ_mul, List.take_add, frees_append, ih, h n (by omega)]; rfl

theorem ty_frees {T : List TypeId} (hp : plainB P T = true) : ∀ (n : Nat) {t : TypeId} {cs : List AV}, t ∈ T → TyC P n t cs → AV.frees cs = true
  | 0, _, _, _, h => h.elim
  | n + 1, t, cs, ht, h => by
    have hpl := plain_at hp ht
    unfold TyC at h
    cases hu : P.underlying t with
    | none => rw [hu] at h; exact h.elim
    | some d =>
      rw [hu] at h hpl
      cases d with
      | bool => obtain ⟨b, rfl⟩ := h; rfl
      | int k => obtain ⟨m, rfl, _⟩ := h; rfl
      | string => obtain ⟨s, rfl, _⟩ := h; rfl
      | slice e =>
        obtain ⟨es, x, rfl, _, h⟩ := h
        simp only [Bool.and_eq_true, List.contains_iff_mem] at hpl
        simp only [AV.frees, AV.free, Bool.and_true]
        refine frees_mem fun a ha => ?_
        have := h a ha
        split at this
        · obtain ⟨ds, rfl, h1⟩ := this
          exact ty_frees hp n hpl.1.1 h1
        · have h2 := ty_frees hp n hpl.1.1 this
          simpa [AV.frees] using h2
      | struct fs =>
        simp only [Bool.and_eq_true, List.all_eq_true, List.contains_iff_mem, beq_iff_eq] at hpl
        obtain ⟨hl, h⟩ := h
        have := contig_free (cs := cs) hpl.2 (fun f hf => by
          obtain ⟨i, hi⟩ := List.getElem?_of_mem hf
          exact ty_frees hp n (hpl.1 f hf) (h i f (by simpa using hi)))
        rw [Nat.sub_zero, List.drop_zero, ← hl, List.take_length] at this
        exact this.2
      | array m e =>
        simp only [Bool.and_eq_true, List.contains_iff_mem, beq_iff_eq] at hpl
        obtain ⟨hl, h⟩ := h
        have := rows_free (cs := cs) (n := m) (w := P.cellsOf e) (fun i hi => ty_frees hp n hpl.1 (h i hi))
        rw [← hpl.2, ← hl, List.take_length] at this
        exact this
      | _ => exact h.elim

/-- A list of numbers, by its length. -/
theorem range_getD {α : Type} (d : α) (xs : List α) : xs = (List.range xs.length).map fun i => xs.getD i d := by
  apply List.ext_getElem (by simp)
  intro i h1 h2
  simp [List.getD, h1]

theorem all_map {α β : Type} {g : α → β} : ∀ {cs : List β}, (∀ a ∈ cs, ∃ m, a = g m) → ∃ ms : List α, cs = ms.map g
  | [], _ => ⟨[], rfl⟩
  | a :: cs, h => by
    obtain ⟨m, rfl⟩ := h a (by simp)
    obtain ⟨ms, rfl⟩ := all_map (cs := cs) (g := g) (fun b hb => h b (List.mem_cons_of_mem _ hb))
    exact ⟨m :: ms, rfl⟩

theorem slots {cs : List AV} {n : Nat} {Q : AV → Prop} (hl : cs.length = n) (h : ∀ i < n, ∃ a, (cs.drop i).take 1 = [a] ∧ Q a) : ∀ a ∈ cs, Q a := by
  intro a ha
  obtain ⟨i, hi, rfl⟩ := List.getElem_of_mem ha
  obtain ⟨b, hb, hq⟩ := h i (by omega)
  rw [List.drop_eq_getElem_cons hi] at hb
  simp only [List.take_succ_cons, List.take_zero, List.cons.injEq, and_true] at hb
  rw [hb]; exact hq

theorem cut4 {α : Type} {cs : List α} {a b c d : Nat} (h : cs.length = a + (b + (c + d))) : cs = cs.take a ++ ((cs.drop a).take b ++ ((cs.drop (a + b)).take c ++ (cs.drop (a + b + c)).take d)) := by
  have h1 : (cs.drop (a + b + c)).take d = (cs.drop (a + b)).drop c := by rw [List.drop_drop, List.take_of_length_le (by rw [List.length_drop]; omega)]
  rw [h1, List.take_append_drop, show cs.drop (a + b) = (cs.drop a).drop b by rw [List.drop_drop], List.take_append_drop, List.take_append_drop]
theorem list9 {α : Type} : ∀ {cs : List α}, cs.length = 9 → ∃ b0 b1 b2 b3 b4 b5 b6 b7 b8, cs = [b0, b1, b2, b3, b4, b5, b6, b7, b8]
  | [b0, b1, b2, b3, b4, b5, b6, b7, b8], _ => ⟨_, _, _, _, _, _, _, _, _, rfl⟩
theorem tyc_int {n : Nat} {t : TypeId} {k : IntKind} {cs : List AV} (hu : P.underlying t = some (.int k)) (h : TyC P n t cs) : ∃ m, cs = [.int k m] := by
  cases n with
  | zero => exact h.elim
  | succ n => unfold TyC at h; rw [hu] at h; obtain ⟨m, h, _⟩ := h; exact ⟨m, h⟩
theorem tyc_slice {n : Nat} {t e : TypeId} {cs : List AV} (hu : P.underlying t = some (.slice e)) (h : TyC P n t cs) : ∃ (m : Nat) (es : List AV) (x : Bool), cs = [.list es x] ∧ ∀ a ∈ es, if aggB P e = true then ∃ ds, a = .agg ds ∧ TyC P m e ds else TyC P m e [a] := by
  cases n with
  | zero => exact h.elim
  | succ n => unfold TyC at h; rw [hu] at h; obtain ⟨es, x, h, _, h2⟩ := h; exact ⟨n, es, x, h, h2⟩
theorem tyc_slice_f {n : Nat} {t e : TypeId} {cs : List AV} (hu : P.underlying t = some (.slice e)) (he : aggB P e = false) (h : TyC P n t cs) : ∃ (m : Nat) (es : List AV) (x : Bool), cs = [.list es x] ∧ ∀ a ∈ es, TyC P m e [a] := by
  obtain ⟨m, es, x, h1, h2⟩ := tyc_slice hu h
  exact ⟨m, es, x, h1, fun a ha => by have := h2 a ha; rw [he] at this; simpa using this⟩
theorem tyc_slice_t {n : Nat} {t e : TypeId} {cs : List AV} (hu : P.underlying t = some (.slice e)) (he : aggB P e = true) (h : TyC P n t cs) : ∃ (m : Nat) (es : List AV) (x : Bool), cs = [.list es x] ∧ ∀ a ∈ es, ∃ ds, a = .agg ds ∧ TyC P m e ds := by
  obtain ⟨m, es, x, h1, h2⟩ := tyc_slice hu h
  exact ⟨m, es, x, h1, fun a ha => by have := h2 a ha; rw [he] at this; simpa using this⟩
theorem tyc_array {n : Nat} {t e : TypeId} {w : Nat} {cs : List AV} (hu : P.underlying t = some (.array w e)) (h : TyC P n t cs) : ∃ m : Nat, cs.length = P.cellsOf t ∧ ∀ i < w, TyC P m e ((cs.drop (i * P.cellsOf e)).take (P.cellsOf e)) := by
  cases n with
  | zero => exact h.elim
  | succ n => unfold TyC at h; rw [hu] at h; exact ⟨n, h⟩
theorem tyc_struct {n : Nat} {t : TypeId} {fs : Array Field} {cs : List AV} (hu : P.underlying t = some (.struct fs)) (h : TyC P n t cs) : ∃ m : Nat, cs.length = P.cellsOf t ∧ ∀ (i : Nat) f, fs[i]? = some f → TyC P m f.type ((cs.drop f.offset).take (P.cellsOf f.type)) := by
  cases n with
  | zero => exact h.elim
  | succ n => unfold TyC at h; rw [hu] at h; exact ⟨n, h⟩
theorem tyv_agg {t : TypeId} {a : AV} (ha : aggB P t = true) (h : TyV P t a) : ∃ (n : Nat) (cs : List AV), a = .agg cs ∧ TyC P n t cs := by
  obtain ⟨n, h⟩ := h
  rw [if_pos ha] at h
  obtain ⟨cs, h1, h2⟩ := h
  exact ⟨n, cs, h1, h2⟩
end Go.Abs

/- Copies of lists of unknown length, and rows of numbers. -/
namespace Go.Abs

variable {P : Program} {cfg : Cfg} {fn lo : Nat}

theorem all_map_cells {α : Type} {g : α → AV} (h : ∀ x, (g x).cells = [g x]) : ∀ xs : List α, (xs.map g).all (fun e => e.cells.length == 1) = true
  | [] => rfl
  | x :: xs => by simp only [List.map_cons, List.all_cons, h, List.length_singleton, beq_self_eq_true, Bool.true_and, all_map_cells h xs]
theorem all_map_cell {α : Type} {g : α → AV} (h : ∀ x, (g x).cells = [g x]) (hc : ∀ x, (g x).isCell = true) : ∀ xs : List α, (xs.map g).all (fun e => e.cells.length == 1 && e.cells.all AV.isCell) = true
  | [] => rfl
  | x :: xs => by simp only [List.map_cons, List.all_cons, List.all_nil, h, hc, List.length_singleton, beq_self_eq_true, Bool.true_and, Bool.and_self, all_map_cell h hc xs]

/-- slices.Clone of a list that isn't empty. -/
theorem clone_op {α : Type} {g : α → AV} (hc1 : ∀ x, (g x).cells = [g x]) (hc2 : ∀ x, (g x).isCell = true) {c : Caller} {caller lo' f : Nat} {fr : List AV} {σ : Sto} {o : Op} {cl : Call} {elem by_ : Nat} {xs : List α} {ex : Bool} (ho : o = .call cl) (hcal : cl.callee = .value (.func f)) (hcl : cfg.clone f = some elem)
    (hsz : szOf P elem = some 1) (hby : byOf P elem = some by_) (ha : evsA cfg fr cl.args.toList = some [.list (xs.map g) ex]) (hne : 0 < xs.length) (hb : (xs.length + 256) * by_ ≤ 2 ^ 46) {S : Sto} (hS : σ ++ [.rows (xs.map g) 0 1 false] = S) {b : Nat} (hbb : σ.length = b) :
    opA P cfg c caller lo' fr σ o = some (.sl b 0 0 xs.length, S) := by
  subst ho hS hbb
  have e : (xs.map g).isEmpty = false := by cases xs with
    | nil => simp at hne
    | cons => rfl
  simp only [opA, callA, ha, hcal, evA, enterA, hcl, List.nil_append, List.append_nil, cloneA, hsz, hby, elemsA, all_map_cells hc1, if_true, e, Bool.false_eq_true, if_false, all_map_cell hc1 hc2, List.length_map]
  rw [if_pos ⟨by omega, trivial, hb⟩]

/-- append(nil, xs...). -/
theorem ap_list {α : Type} {g : α → AV} (hc1 : ∀ x, (g x).cells = [g x]) (hc2 : ∀ x, (g x).isCell = true) {c : Caller} {caller lo' : Nat} {fr : List AV} {σ : Sto} {o : Op} {cl : Call} {sT xT elem : TypeId} {by_ : Nat} {z : AV} {xs : List α} {ex : Bool} (ho : o = .call cl) (hc : cl.callee = .builtin .append) (hts : cl.argTypes[0]? = some sT) (htx : cl.argTypes[1]? = some xT)
    (hus : P.underlying sT = some (.slice elem)) (hux : P.underlying xT = some (.slice elem)) (hsz : szOf P elem = some 1) (hby : byOf P elem = some by_) (hz : zeroA P elem = some z) (hzl : z.cells.length = 1) (hb0 : 0 < by_)
    (ha : evsA cfg fr cl.args.toList = some [.list [] true, .list (xs.map g) ex]) (hne : 0 < xs.length) (hbd : (0 + xs.length + 256) * by_ ≤ 2 ^ 46) {S : Sto} (hS : σ ++ [.rows (xs.map g) 0 1 false] = S) {b : Nat} (hbb : σ.length = b) :
    opA P cfg c caller lo' fr σ o = some (.sl b 0 0 (0 + xs.length), S) := by
  subst ho hS hbb
  have e : (xs.map g).isEmpty = false := by cases xs with
    | nil => simp at hne
    | cons => rfl
  simp only [opA, callA, ha, hc, appendA, hts, htx, hus, hux, hsz, hby, hz, elemsA, hzl, hb0, and_self, if_true, Nat.zero_lt_one, all_map_cells hc1, all_map_cell hc1 hc2, e, Bool.false_eq_true, if_false, List.all_nil, List.length_nil, List.length_map, hbd, List.nil_append]

/-- A call that is run where it stands, in a region whose order is drawn. -/
theorem DK.inl {kk : Nat} {ops : Array Oper} {fr : List AV} {σ : Sto} {Q : List AV → Sto → Prop} {o : Oper} {rest : List Oper} {cl : Call} {g : Nat} {first cap args : List AV} {f : Operand} {fnn : Func} {b : Code} (l0 : Nat) (hlo : (if classA cfg fn o.op = 2 then lo else σ.length) = l0) (ho : o.op = .call cl) (hw : wantedA ops fr o = some true) (hcal : cl.callee = .value f) (hf : evA cfg fr f = some (.func (.func g) first cap))
    (ha : evsA cfg fr cl.args.toList = some args) (h1 : cfg.clone g = none) (h2 : cfg.ext g = none) (h3 : cfg.mode fn g = .inline) (hfn : P.funcs[g]? = some fnn) (hb : fnn.body = some b)
    (h : X P cfg kk g l0 b ((first ++ args ++ cap) ++ List.replicate (fnn.ntmps - (first ++ args ++ cap).length) undefA) σ (fun x fr' σ' => x.leaves = true ∧ ∃ vs, resultsA P σ' fr' fnn.results.toList = some vs ∧ DK P cfg (callW P (exec P cfg kk)) fn lo ops rest (putA fr o.dst (tupleA vs)) σ' Q)) : DK P cfg (callW P (exec P cfg kk)) fn lo ops (o :: rest) fr σ Q := by
  obtain ⟨x, fr', σ', e, hx, vs, hv, hk⟩ := h
  refine DK.op hw ?_ hk
  rw [hlo, ho]
  simp only [opA, callA, ha, hcal, hf, enterA, h1, h2, h3]
  unfold callW
  simp only [hfn, hb, e]
  cases x with
  | exit id => cases hx
  | normal => simp only [finA, hv, Option.map_some]
  | ret => simp only [finA, hv, Option.map_some]
end Go.Abs
