/-
  The interpreter over pure values is sound: what it computes, every call of the model does. No condition but those that each theorem names.
-/
import Derived.Test.YtnpheencpcfbbaaGreatDoorL2
import Derived.Carry
import Derived.ProofKit
import Derived.OpenShut
import Derived.ChangeSame
import GoSem.ClaimJoined
set_option linter.unusedSimpArgs false
set_option linter.unusedVariables false
namespace Go.Abs
open Go.RowKit (Below)
open Go.ChangeShapes
variable {P : Program}
def TyV (P : Program) (t : TypeId) (a : AV) : Prop := ∃ n, if aggB P t = true then ∃ ds, a = .agg ds ∧ TyC P n t ds else TyC P n t [a]
theorem cell_one {W : World} {b0 : Nat} {t : TypeId} {v : Value} (ha : aggB P t = false) (h : Value.okWide P W .any b0 t v) : v.cells.toList = [v] := by
  cases v with
  | agg cs =>
    exfalso
    unfold Value.okWide at h
    unfold aggB at ha
    split at h
    · rename_i hu; simp [hu] at ha
    · rename_i hu; simp [hu] at ha
    · unfold Cell.okWide at h
      split at h
      all_goals first
        | (rename_i e; cases e; done)
        | (unfold Cell.ok at h; split at h <;> first | exact h.elim | (rename_i e; cases e; done) | simp_all)
  | _ => rfl
theorem arg_rel {H : Type} {enc : TypeId × Value → H} {W : World} {T : List TypeId} (hp : plainB P T = true) {b0 b1 : Nat} {sp : Nat → Bool} {hd : Bool} {t : TypeId} {v : Value} {d : DataW H} {ps : List MemPlace} (ht : t ∈ T)
    (hok : Value.okWide P W .any b1 t v) (h : DataW.Trod enc P W b0 sp hd t v d ps) : ∃ a, VRel (Ren.still W) a v ∧ TyV P t a := by
  obtain ⟨n, h⟩ := h
  obtain ⟨as, hr, hty, hl⟩ := trod_typed hp ht h
  cases hag : aggB P t with
  | true =>
    unfold Value.okWide at hok
    unfold aggB at hag
    have : ∃ cs, v = .agg cs := by
      split at hok
      · exact ⟨_, hok.choose_spec.1⟩
      · exact ⟨_, hok.choose_spec.1⟩
      · split at hag <;> simp_all
    obtain ⟨cs, rfl⟩ := this
    have hr' : VRels (Ren.still W) as cs.toList := hr
    have := VRel.agg hr'
    refine ⟨.agg as, by simpa using this, n, ?_⟩
    rw [if_pos (by unfold aggB; exact hag)]
    exact ⟨as, rfl, hty⟩
  | false =>
    rw [cell_one hag hok] at hr
    cases hr with
    | cons h1 h2 => cases h2 with
      | nil => exact ⟨_, h1, n, by rw [if_neg (by rw [hag]; simp)]; exact hty⟩
theorem args_rel {H : Type} {enc : TypeId × Value → H} {W : World} {T : List TypeId} (hp : plainB P T = true) {b0 b1 : Nat} {sp : Nat → Bool} {hd : Bool} : ∀ {ts : List TypeId} {vs : List Value} {ds : List (DataW H)} {ps : List MemPlace}, (∀ t ∈ ts, t ∈ T) →
    (∀ (j : Nat) t v, ts[j]? = some t → vs[j]? = some v → Value.okWide P W .any b1 t v) → DataW.TrodAll enc P W b0 sp hd ts vs ds ps →
    ∃ as, VRels (Ren.still W) as vs ∧ as.length = ts.length ∧ ds.length = ts.length ∧ ∀ (j : Nat) t a, ts[j]? = some t → as[j]? = some a → TyV P t a
  | [], [], [], ps, _, _, _ => ⟨[], .nil, rfl, rfl, fun j t a h => by simp at h⟩
  | t :: ts, v :: vs, d :: ds, ps, hT, hok, h => by
    obtain ⟨p, q, h1, h2, rfl⟩ := h
    obtain ⟨a, hr, hty⟩ := arg_rel hp (hT t (by simp)) (hok 0 t v rfl rfl) h1
    obtain ⟨as, k1, k2, k3, k4⟩ := args_rel hp (fun t ht => hT t (by simp [ht])) (fun j t v h1 h2 => hok (j + 1) t v (by simpa using h1) (by simpa using h2)) h2
    refine ⟨a :: as, .cons hr k1, by simp [k2], by simp [k3], fun j t' a' h1 h2 => ?_⟩
    cases j with
    | zero => simp at h1 h2; subst h1 h2; exact hty
    | succ j => exact k4 j t' a' (by simpa using h1) (by simpa using h2)
  | [], _ :: _, _, _, _, _, h => h.elim
  | [], [], _ :: _, _, _, _, h => h.elim
  | _ :: _, [], _, _, _, _, h => h.elim
  | _ :: _, _ :: _, [], _, _, _, h => h.elim
theorem trodAll_below {H : Type} {enc : TypeId × Value → H} (hl : laidOutB P = true) {W W' : World} (hb : Below W.heap.size W W') : ∀ {ts : List TypeId} {vs : List Value} {ds : List (DataW H)} {ps : List MemPlace},
    (∀ t ∈ ts, P.readableRec t = true ∧ t < P.types.size) → DataW.TrodAll enc P W 0 (fun _ => true) true ts vs ds ps → (∀ x ∈ ps, x.block < W.heap.size) →
    DataW.TrodAll enc P W' 0 (fun b => decide (b < W.heap.size)) true ts vs ds ps ∧ DataW.TrodAll enc P W' 0 (fun _ => true) true ts vs ds ps
  | [], [], [], ps, _, h, _ => ⟨h, h⟩
  | t :: ts, v :: vs, d :: ds, ps, hT, h, hlt => by
    obtain ⟨p, q, h1, h2, rfl⟩ := h
    obtain ⟨k1, k2⟩ := trodAll_below hl hb (fun t ht => hT t (by simp [ht])) h2 (fun x hx => hlt x (by simp [hx]))
    obtain ⟨r1, r2⟩ := hT t (by simp)
    have e1 := Go.RowKit.Below.trod hl r1 r2 h1 hb (fun x hx => hlt x (by simp [hx]))
    have e2 : DataW.Trod enc P W' 0 (fun _ => true) true t v d p := Go.WideElems.Trod_stays hl r1 r2 h1 (fun x hx => hb.same (hlt x (by simp [hx]))) (fun _ _ => rfl)
    exact ⟨⟨p, q, e1, k1, rfl⟩, ⟨p, q, e2, k2, rfl⟩⟩
  | [], _ :: _, _, _, _, h, _ => h.elim
  | [], [], _ :: _, _, _, h, _ => h.elim
  | _ :: _, [], _, _, _, h, _ => h.elim
  | _ :: _, _ :: _, [], _, _, h, _ => h.elim
def LawOk (P : Program) (cfg : Cfg) (f : Nat) (ts : List TypeId) : Prop :=
  ∀ as : List AV, as.length = ts.length → (∀ (j : Nat) t a, ts[j]? = some t → as[j]? = some a → TyV P t a) → ∃ k σ', callF P cfg k f as 0 [] = some (.bool true, σ')
theorem law_contract {cfg : Cfg} (hm : P.follows .mixedOrders = true) (hcfg : CfgOk P cfg) {f : Nat} {fn : Func} {T : List TypeId} (hp : plainB P T = true) (hl : laidOutB P = true) {tb : TypeId} (hres : fn.resultTypes = #[tb]) (htb : P.underlying tb = some .bool)
    (hT : ∀ t ∈ fn.params.toList, t ∈ T ∧ P.readableRec t = true ∧ t < P.types.size) (law : LawOk P cfg f fn.params.toList)
    {H : Type} {enc : TypeId × Value → H} {W : World} {b1 : Nat} {args : Array Value} {ds gs : List (DataW H)} {before : List MemPlace} {s : ChangeSpec} (hvars : s.vars = [])
    (hs : ∀ ds : List (DataW H), ds.length = fn.params.size → (s.fn H ds).results = [.lit (.bool true)] ∧ (s.fn H ds).args = ds ∧ (s.fn H ds).vars = [])
    (hval : ∀ (j : Nat) t v, fn.params[j]? = some t → args[j]? = some v → Value.okWide P W .any b1 t v)
    (hW : DataW.Whole enc P fn.params.toList s.vars false W args.toList ds gs before) (hG : GlobOk cfg (Ren.still W)) :
    Calls P f args W fun e W' => ∃ v, e = .returned v ∧ s.post enc P fn false true false false W args v W' := by
  have hlt := hW.lt
  obtain ⟨p, q, hA, hV, rfl, hfz, hnd⟩ := hW
  rw [hvars] at hV
  obtain ⟨rfl, rfl⟩ := trodVars_none hV
  simp only [List.append_nil] at hlt hfz
  obtain ⟨as, hr, hal, hdl, hty⟩ := args_rel hp (fun t ht => (hT t ht).1) (fun j t v h1 h2 => hval j t v (by simpa using h1) (by simpa using h2)) hA
  obtain ⟨k, σ', hc⟩ := law as hal hty
  have := call_ok hm hcfg k f as 0 [] (.bool true) σ' hc (Ren.still W) W W.heap.size args.toList (Inv.still W 0 W.heap.size) (Nat.le_refl _) (Nat.le_refl _) hG hr
  rw [Array.toArray_toList] at this
  refine this.mono ?_
  rintro e W' ⟨v, R', rfl, hst, hrel⟩
  cases hrel
  have hb := hst.below
  have hlt' : ∀ x ∈ p, x.block < W.heap.size := fun x hx => by simpa using hlt x hx
  obtain ⟨b1', _⟩ := trodAll_below (enc := enc) hl hb (fun t ht => (hT t ht).2) hA hlt'
  obtain ⟨s1, s2, s3⟩ := hs ds (by simpa using hdl)
  refine ⟨_, rfl, ds, [], p, [], p, [], ⟨p, [], hA, by rw [hvars]; exact rfl, by simp, by simpa using hfz, fun h => by cases h⟩, ?_, ?_, ?_, hb.frame _, fun h => by cases h⟩
  · rw [List.append_nil, s1, hres]
    exact trodAll_mk1 (Go.RowKit.shut_bool htb true)
  · rw [List.append_nil, s2]; exact b1'
  · rw [List.append_nil, s3, hvars]; exact rfl
end Go.Abs
namespace Go.Abs
variable {P : Program}
mutual
def flatD {H : Type} : DataW H → List Value
  | .lit (.bool b) => [.bool b]
  | .lit (.int k n) => [.int k n]
  | .agg parts => flatDs parts
  | _ => []
def flatDs {H : Type} : List (DataW H) → List Value
  | [] => []
  | d :: ds => flatD d ++ flatDs ds
end
def flatB (P : Program) (T : List TypeId) : Bool := plainB P T && T.all fun t => match P.underlying t with
  | some .string => false
  | some (.slice _) => false
  | _ => true
theorem pieces_flat {H : Type} {P : Program} : ∀ {fs : List Field} {xs : List (DataW H × List MemPlace)} {n m : Nat} {cs : List Value}, contig P fs n = some m → cs.length = m → xs.length = fs.length →
    (∀ (i : Nat) f x, fs[i]? = some f → xs[i]? = some x → (cs.drop f.offset).take (P.cellsOf f.type) = flatD x.1) → cs.drop n = flatDs (xs.map (·.1))
  | [], [], n, m, cs, h, hl, _, _ => by
    simp only [contig, Option.some.injEq] at h
    subst h
    rw [List.drop_eq_nil_of_le (by omega)]; rfl
  | f :: fs, x :: xs, n, m, cs, h, hl, hx, hp => by
    simp only [contig] at h
    split at h
    · rename_i ho
      subst ho
      have h1 := pieces_flat h hl (by simpa using hx) (fun i f' x' h1 h2 => hp (i + 1) f' x' (by simpa using h1) (by simpa using h2))
      have h2 := hp 0 f x rfl rfl
      have e : cs.drop f.offset = (cs.drop f.offset).take (P.cellsOf f.type) ++ cs.drop (f.offset + P.cellsOf f.type) := by
        rw [← List.drop_drop, List.take_append_drop]
      rw [e, h1, h2]
      rfl
    · cases h
  | [], _ :: _, _, _, _, _, _, h, _ => by simp at h
  | _ :: _, [], _, _, _, _, _, h, _ => by simp at h
theorem array_flat {H : Type} {sz : Nat} : ∀ {n : Nat} {xs : List (DataW H × List MemPlace)} {cs : List Value}, cs.length = n * sz → xs.length = n →
    (∀ i x, i < n → xs[i]? = some x → (cs.drop (i * sz)).take sz = flatD x.1) → cs = flatDs (xs.map (·.1))
  | 0, [], cs, h, _, _ => by simp at h; subst h; rfl
  | n + 1, x :: xs, cs, h, hx, hp => by
    rw [Nat.add_mul, Nat.one_mul] at h
    have h1 := array_flat (n := n) (xs := xs) (cs := cs.drop sz) (sz := sz) (by rw [List.length_drop]; omega) (by simpa using hx) (fun i x' hi hx' => by
      rw [List.drop_drop, show sz + i * sz = (i + 1) * sz by rw [Nat.add_mul]; omega]
      exact hp (i + 1) x' (by omega) (by simpa using hx'))
    have h2 := hp 0 x (by omega) rfl
    rw [Nat.zero_mul, List.drop_zero] at h2
    calc cs = cs.take sz ++ cs.drop sz := (List.take_append_drop _ _).symm
      _ = flatD x.1 ++ flatDs (xs.map (·.1)) := by rw [h2, h1]
  | 0, _ :: _, _, _, h, _ => by simp at h
  | _ + 1, [], _, _, h, _ => by simp at h
theorem trod_flat {H : Type} {enc : TypeId × Value → H} {W : World} {T : List TypeId} (hp : flatB P T = true) {b0 : Nat} {sp : Nat → Bool} {hd : Bool} : ∀ {n : Nat} {t : TypeId} {cs : List Value} {x : DataW H × List MemPlace}, t ∈ T →
    DataW.trod enc P W b0 sp hd n t cs = some x → cs = flatD x.1
  | 0, _, _, _, _, h => by simp [DataW.trod] at h
  | n + 1, t, cs, x, ht, h => by
    have hp' := hp
    simp only [flatB, Bool.and_eq_true, List.all_eq_true] at hp
    have hpt := plain_at hp.1 ht
    have hft := hp.2 t ht
    unfold DataW.trod at h
    cases hu : P.underlying t with
    | none => simp [hu] at hpt
    | some desc =>
      rw [hu] at hpt h hft
      cases desc <;> simp only [Bool.false_eq_true] at hpt hft <;> simp only at h ⊢
      case bool =>
        split at h
        all_goals (try (exfalso; clear h; simp_all; done))
        · cases h; rfl
        · cases h
      case int k =>
        split at h
        all_goals (try (exfalso; clear h; simp_all; done))
        · rename_i heq
          cases heq
          split at h
          · rename_i hk; obtain ⟨rfl, _⟩ := hk; cases h; rfl
          · cases h
        · cases h
      case struct fs =>
        simp only [Bool.and_eq_true, List.all_eq_true, List.contains_iff_mem, beq_iff_eq] at hpt
        obtain ⟨hfT, hcon⟩ := hpt
        split at h
        · rename_i hcl
          simp only [Option.map_eq_some_iff] at h
          obtain ⟨xs, hxs, rfl⟩ := h
          have hlen := mapM_some_length hxs
          have := pieces_flat (xs := xs) hcon hcl hlen (fun i f x hf hx => by
            have := mapM_some_get hxs i f hf
            rw [hx] at this
            exact trod_flat hp' (hfT f (List.mem_of_getElem? hf)) this)
          rw [List.drop_zero] at this
          exact this
        · cases h
      case array m e =>
        simp only [Bool.and_eq_true, List.contains_iff_mem, beq_iff_eq] at hpt
        obtain ⟨heT, hsz⟩ := hpt
        split at h
        · rename_i hcl
          simp only [Option.map_eq_some_iff] at h
          obtain ⟨xs, hxs, rfl⟩ := h
          have hlen := mapM_some_length hxs
          simp only [List.length_range] at hlen
          exact array_flat (n := m) (sz := P.cellsOf e) (by rw [hcl, hsz]) hlen (fun i x hi hx => by
            have := mapM_some_get hxs i i (by simp [hi])
            rw [hx] at this
            exact trod_flat hp' heT this)
        · cases h
theorem laid_at {W : World} : ∀ {laid : List (String × DataW Unit)} {ps : List MemPlace}, DataW.LaidVars P W laid ps → ∀ {n : String} {d : DataW Unit}, (n, d) ∈ laid →
    ∃ g t cs fuel p, P.globalNamed n = some g ∧ (P.globals[g]?).map (·.type) = some t ∧ W.var? P n = some cs ∧ DataW.trod (fun _ => ()) P W 0 (fun _ => true) false fuel t cs.toList = some (d, p)
  | [], _, _, _, _, h => by cases h
  | (n', d') :: r, ps, h, n, d, hm => by
    obtain ⟨g, t, cs, fuel, p, q, h1, h2, h3, h4, h5, _⟩ := h
    rcases List.mem_cons.1 hm with e | hm
    · cases e; exact ⟨g, t, cs, fuel, p, h1, h2, h3, h4⟩
    · exact laid_at h5 hm
theorem abs_rel {R : Ren} : ∀ {vs : List Value} {as : List AV}, absL vs = some as → VRels R as vs
  | [], as, h => by simp [absL] at h; subst h; exact .nil
  | v :: vs, as, h => by
    simp only [absL] at h
    cases e1 : absS v with
    | none => simp [e1] at h
    | some a => cases e2 : absL vs with
      | none => simp [e1, e2] at h
      | some bs =>
        simp [e1, e2] at h
        subst h
        exact .cons (absC_rel (by cases v <;> simp_all [absC, absS])) (abs_rel e2)
theorem glob_ok {cfg : Cfg} {T : List TypeId} (hp : flatB P T = true) {laid : List (String × DataW Unit)} {W : World} (hh : (laid.filter fun x => x.2.handleName?.isSome) = []) (h : laidMetH P laid W)
    (hc : ∀ g cs, cfg.glob g = some cs → ∃ n d t, (n, d) ∈ laid ∧ P.globalNamed n = some g ∧ (P.globals[g]?).map (·.type) = some t ∧ t ∈ T ∧ absL (flatD d) = some cs ∧ AV.frees cs = true) : GlobOk cfg (Ren.still W) := by
  intro g cs hg
  obtain ⟨n, d, t, hm, h1, h2, h3, h4, h5⟩ := hc g cs hg
  unfold laidMetH at h
  rw [hh] at h
  obtain ⟨ps, hl, _⟩ := h
  obtain ⟨g', t', vs, fuel, p, k1, k2, k3, k4⟩ := laid_at hl hm
  obtain rfl := Option.some.inj (h1.symm.trans k1)
  obtain rfl := Option.some.inj (h2.symm.trans k2)
  have e := trod_flat hp h3 k4
  simp only at e
  rw [← e] at h4
  have hr := abs_rel (R := Ren.still W) h4
  refine ⟨CellsAt.of_get fun i b hb => ?_, h5⟩
  obtain ⟨v, hv, hrel⟩ := hr.get hb
  refine ⟨v, ?_, hrel⟩
  unfold World.var? at k3
  rw [k1] at k3
  simp only [Option.bind_some] at k3
  split at k3
  · rename_i cs' _ _ hheap
    cases k3
    show W.cell? ⟨g, 0 + i, none⟩ = some v
    simp only [World.cell?, Nat.zero_add, hheap, Option.isSome_none, Bool.false_eq_true, if_false]
    simpa using hv
  · cases k3
end Go.Abs
namespace Go.Abs
open Go.RowKit (Below)
variable {P : Program}
theorem wpList_val {ops : Array Oper} {Q : Exit → Act → World → Prop} {o : Oper} {rest : List Oper} {a : Act} {w w' : World} {v : Value} (hg : o.guard = none) (h : (execOp a.eval o).run P w = .ok (.value v) w')
    (k : wpList P ops Q rest (a.put o.dst v) w') : wpList P ops Q (o :: rest) a w := by
  unfold wpList
  rw [if_pos (by unfold Region.wanted; rw [hg])]
  left
  unfold Oper.wp
  rw [h]
  exact k
theorem slice_value {R : Ren} {σ : Sto} {n : Nat} {x : AV} {v : Value} {xs : List AV} (h : VRel R x v) (hx : elemsA σ n x = some xs) : ∃ p l c, v = .slice p l c := by
  cases h <;> simp [elemsA] at hx <;> exact ⟨_, _, _, rfl⟩
def cloneBody (t b : TypeId) (i0 i1 i2 i3 : Nat) (p : Nat → String) (e : Nat → Array Edge) : Code :=
  .seq (.region i0 #[⟨some 2, .assign (.const (.slice none 0 0)), t, p 0, e 0, none⟩] false)
    (.seq (.seq (.region i1 #[⟨some 3, .move (.tmp 0), t, p 1, e 1, none⟩, ⟨some 4, .binOp .eql t (.tmp 3) (.const (.slice none 0 0)) t, b, p 2, e 2, none⟩] false)
        (.cond (.tmp 4) (.seq (.region i2 #[⟨some 2, .assign (.const (.slice none 0 0)), t, p 3, e 3, none⟩] false) .ret) .skip))
      (.seq (.region i3 #[⟨some 5, .buildSlice t 0 #[], t, p 4, e 4, none⟩, ⟨some 6, .move (.tmp 0), t, p 5, e 5, none⟩,
        ⟨some 7, .call ⟨.builtin .append, #[.tmp 5, .tmp 6], #[t, t]⟩, t, p 6, e 6, none⟩, ⟨some 2, .assign (.tmp 7), t, p 7, e 7, none⟩] false) .ret))
theorem clone_tail {cfg : Cfg} {σ σ' : Sto} {lo : Nat} {t e size bytes : Nat} {z x r y1 y2 y3 y4 : AV} (hu : P.underlying t = some (.slice e)) (hs : szOf P e = some size) (hb : byOf P e = some bytes) (hz : zeroA P e = some z) (hzl : z.cells.length = size) (hp : 0 < size) (hpb : 0 < bytes)
    (h : cloneA P σ e [x] = some (r, σ')) (b : TypeId) (p : Nat → String) (ed : Nat → Array Edge) (ops : Array Oper) :
    opsA P cfg (fun _ _ _ _ => none) 0 lo ops [⟨some 5, .buildSlice t 0 #[], t, p 4, ed 4, none⟩, ⟨some 6, .move (.tmp 0), t, p 5, ed 5, none⟩,
        ⟨some 7, .call ⟨.builtin .append, #[.tmp 5, .tmp 6], #[t, t]⟩, t, p 6, ed 6, none⟩, ⟨some 2, .assign (.tmp 7), t, p 7, ed 7, none⟩]
      [x, undefA, y1, y2, y3, undefA, undefA, undefA] σ = some ([x, undefA, r, y2, y3, .list [] true, x, r], σ') := by
  simp only [cloneA, hs, hb] at h
  cases hx : elemsA σ size x with
  | none => simp [hx] at h
  | some xs =>
    simp only [hx] at h
    have happ : appendA P lo σ #[t, t] (.list [] true) x = some (r, σ') := by
      simp only [appendA, hu, hs, hb, hz, hx]
      simp [hu, hs, hb, hz, hzl, hp, hpb, hx]
      split at h
      · rename_i he
        cases h
        have : xs = [] := by simpa using he
        subst this
        simp
      · rename_i he
        split at h
        · rename_i hc
          cases h
          have hne : xs ≠ [] := by simpa using he
          have h2 := hc.2.1
          simp at h2
          refine ⟨h2, ?_⟩
          rw [if_neg (by simpa using hne)]
          simp [hc.2.2]
        · cases h
    have hbs : buildSliceA P t 0 [] = some (.list [] true) := by
      simp [buildSliceA, hu, hs, hz, hzl, hp, setsA]
    simp [opsA, wantedA, opA, opBuildSlice, partsA, evsA, hbs, sameA, putA, evA, callA, happ]
theorem run_eql_nil {t e : TypeId} (hu : P.underlying t = some (.slice e)) (p : Option Addr) (l c : Nat) (w : World) (dst : Option Tmp) (b : TypeId) (pos : String) (ed : Array Edge) {a : Act} (ha : a.eval (.tmp 3) = .slice p l c) :
    (execOp a.eval ⟨dst, .binOp .eql t (.tmp 3) (.const (.slice none 0 0)) t, b, pos, ed, none⟩).run P w = .ok (.value (.bool p.isNone)) w := by
  have hc : a.eval (.const (.slice none 0 0)) = .slice none 0 0 := rfl
  simp only [execOp, ha, hc]
  have he : (Op.equal t (.slice p l c) (.slice none 0 0)).run P w = .ok p.isNone w := by
    unfold Op.equal Op.maxDepth Op.equalIn
    simp only [Sem.run_bind, run_under hu, Result.andThen_ok]
    cases p <;> rfl
  have hg : (eqGuard .eql t (.tmp 3) (.const (.slice none 0 0)) (.slice p l c) (.slice none 0 0)).run P w = .ok () w := by rfl
  simp only [Sem.run_bind, hg, Result.andThen_ok, binOp, he, Sem.run_pure]
theorem clone_ok {cfg : Cfg} (hcfg : CfgOk P cfg) {f t b e size bytes : Nat} {z : AV} {fn : Func} {i0 i1 i2 i3 : Nat} {p : Nat → String} {ed : Nat → Array Edge} (hf : P.funcs[f]? = some fn) (hbody : fn.body = some (cloneBody t b i0 i1 i2 i3 p ed)) (hn : fn.ntmps = 8) (hr : fn.results = #[.tmp 2])
    (hu : P.underlying t = some (.slice e)) (hs : szOf P e = some size) (hb : byOf P e = some bytes) (hz : zeroA P e = some z) (hzl : z.cells.length = size) (hp : 0 < size) (hpb : 0 < bytes)
    {args : List AV} {r : AV} {σ σ' : Sto} (h : cloneA P σ e args = some (r, σ')) {R : Ren} {w : World} {lo base : Nat} {vs : List Value} (I : Inv R σ w lo base) (hbase : base ≤ w.heap.size) (hlo : lo ≤ σ.length) (hg : GlobOk cfg R) (hv : VRels R args vs) :
    Calls P f vs.toArray w (Post R σ w lo base r σ') := by
  obtain ⟨x, rfl⟩ : ∃ x, args = [x] := by
    unfold cloneA at h
    split at h
    · exact ⟨_, rfl⟩
    · cases h
  cases hv with
  | cons h1 h2 => cases h2 with
    | nil =>
      rename_i v
      have hx : ∃ xs, elemsA σ size x = some xs := by
        simp only [cloneA, hs, hb] at h
        cases hx : elemsA σ size x with
        | none => simp [hx] at h
        | some xs => exact ⟨xs, rfl⟩
      obtain ⟨xs, hx⟩ := hx
      obtain ⟨q, l, c, rfl⟩ := slice_value h1 hx
      refine calls_of_wp hf hbody ?_
      have e0 : ([Value.slice q l c].toArray ++ Array.replicate (fn.ntmps - [Value.slice q l c].toArray.size) undef) = #[.slice q l c, undef, undef, undef, undef, undef, undef, undef] := by
        rw [hn]; rfl
      rw [e0]
      unfold cloneBody
      refine wp_seq (wp_region_list (wpList_val rfl rfl ?_))
      unfold wpList
      refine wp_seq (wp_seq (wp_region_list (wpList_val rfl rfl (wpList_val rfl (run_eql_nil hu q l c w _ _ _ _ rfl) ?_))))
      unfold wpList
      show (Code.cond _ _ _).wp P _ _ w
      have post : ∀ (a' : Act) (w' : World) (R' : Ren) (v : Value), a'.defers = [] → a'.tmps.getD 2 undef = v → Step R σ w lo base R' σ' w' → VRel R' r v → bodyPost P fn (Post R σ w lo base r σ') .ret a' w' := by
        intro a' w' R' v hd ht hst hrel
        refine ⟨hd, v, ?_, v, R', rfl, hst, hrel⟩
        unfold results
        rw [hr]
        simp only [Array.mapM_eq_mapM_toList, List.mapM_cons, List.mapM_nil]
        rw [ht]
        rfl
      cases q with
      | none =>
        have hnil : xs = [] ∧ r = .list [] true ∧ σ' = σ := by
          have hxs : xs = [] := by
            cases h1 with
            | list0 => simp [elemsA] at hx; exact hx
            | opq => simp [elemsA] at hx
            | sl off len _ e' hl hpp =>
              simp only [elemsA] at hx
              split at hx
              · split at hx
                · rename_i es g' sz fz hσ hc
                  cases hx
                  have hrr := (I.rows _ _ _ _ _ hσ _ e').2
                  obtain ⟨q1, q2, q3, _⟩ := hrr
                  apply List.eq_nil_of_length_eq_zero
                  rw [List.length_take, List.length_drop]
                  apply Decidable.byContradiction
                  intro hne
                  have := hpp (by omega)
                  cases this
                · cases hx
              · cases hx
            | slOld off len _ cap e' hlt =>
              simp only [elemsA] at hx
              split at hx
              · split at hx
                · rename_i es g' sz fz hσ hc
                  have := (I.rows _ _ _ _ _ hσ _ e').1
                  omega
                · cases hx
              · cases hx
            | bsl off len cap _ e' hl hpp =>
              simp only [elemsA] at hx
              split at hx
              · split at hx
                · cases hx
                  apply List.eq_nil_of_length_eq_zero
                  rw [List.length_take, List.length_drop]
                  apply Decidable.byContradiction
                  intro hne
                  have := hpp (by omega)
                  cases this
                · cases hx
              · cases hx
          subst hxs
          simp [cloneA, hs, hb, hx] at h
          exact ⟨rfl, h.1.symm, h.2.symm⟩
        obtain ⟨_, rfl, rfl⟩ := hnil
        refine wp_cond_true rfl (wp_seq (wp_region_list (wpList_val rfl rfl ?_)))
        unfold wpList
        exact wp_ret (post _ w R (.slice none 0 0) rfl rfl (.refl I) (.list0 _ _ _ (fun _ => rfl)))
      | some addr =>
        refine wp_cond_false rfl (wp_skip ?_)
        have hops := clone_tail (cfg := cfg) (lo := lo) (y1 := .opq) (y2 := .opq) (y3 := .opq) (y4 := .opq) hu hs hb hz hzl hp hpb h b p ed
          #[⟨some 5, .buildSlice t 0 #[], t, p 4, ed 4, none⟩, ⟨some 6, .move (.tmp 0), t, p 5, ed 5, none⟩, ⟨some 7, .call ⟨.builtin .append, #[.tmp 5, .tmp 6], #[t, t]⟩, t, p 6, ed 6, none⟩, ⟨some 2, .assign (.tmp 7), t, p 7, ed 7, none⟩]
        refine wp_seq (wp_region_list (ops_ok (R := R) hcfg (fun _ _ _ _ _ _ hh => by cases hh) (fun _ _ _ _ _ hh => by cases hh) trivial hops I hbase hlo hg ?_ rfl ?_))
        · exact .cons h1 (.cons (.tuple .nil) (.cons (.opq _) (.cons (.opq _) (.cons (.opq _) (.cons (.tuple .nil) (.cons (.tuple .nil) (.cons (.tuple .nil) .nil)))))))
        · intro a' w' R' hst hf' hd _
          have h2 := hf'.get (i := 2) rfl
          obtain ⟨u, hu', hrel⟩ := h2
          refine wp_ret (post a' w' R' u hd ?_ hst hrel)
          have : a'.tmps[2]? = some u := by simpa using hu'
          simp [this]
end Go.Abs
namespace Go.Abs
variable {P : Program}
def IsClone (P : Program) (f e : Nat) : Prop := ∃ (fn : Func) (t b size bytes : Nat) (z : AV) (i0 i1 i2 i3 : Nat) (p : Nat → String) (ed : Nat → Array Edge), P.funcs[f]? = some fn ∧ fn.body = some (cloneBody t b i0 i1 i2 i3 p ed) ∧ fn.ntmps = 8 ∧ fn.results = #[.tmp 2] ∧
  P.underlying t = some (.slice e) ∧ szOf P e = some size ∧ byOf P e = some bytes ∧ zeroA P e = some z ∧ z.cells.length = size ∧ 0 < size ∧ 0 < bytes
theorem cfg_ok {cfg : Cfg} (names : ∀ (f : Nat) fn, P.funcs[f]? = some fn → fn.name ≠ "runtime.NumGoroutine") (hext : ∀ f, cfg.ext f = none) (hclone : ∀ f e, cfg.clone f = some e → IsClone P f e) : CfgOk P cfg := by
  have base : CfgOk P ⟨fun _ => none, fun _ _ => .reader, fun _ => none, fun _ => none, fun _ => false, fun _ _ => [], fun _ _ => (0, 0)⟩ :=
    ⟨fun _ _ h => (by cases h), fun _ _ h => (by cases h), fun _ _ _ _ => ⟨rfl, rfl⟩, names, fun _ h => (by rcases h with h | h <;> cases h)⟩
  refine ⟨fun f e h => (by rw [hext f] at h; cases h), ?_, ?_, names, ?_⟩
  · intro f T hT args r σ σ' h R w lo base' vs I hb hlo hv
    obtain ⟨fn, t, b, size, bytes, z, i0, i1, i2, i3, p, ed, h1, h2, h3, h4, h5, h6, h7, h8, h9, h10, h11⟩ := hclone f T hT
    exact clone_ok base h1 h2 h3 h4 h5 h6 h7 h8 h9 h10 h11 h I hb hlo (fun g cs h => (by cases h)) hv
  · intro f fn hfn hb
    refine ⟨hext f, ?_⟩
    cases hc : cfg.clone f with
    | none => rfl
    | some e =>
      obtain ⟨fn', t, b, size, bytes, z, i0, i1, i2, i3, p, ed, h1, h2, _⟩ := hclone f e hc
      rw [hfn] at h1; cases h1
      rw [hb] at h2; cases h2
  · intro f h
    rcases h with h | h
    · rw [hext f] at h; cases h
    · cases hc : cfg.clone f with
      | none => rw [hc] at h; cases h
      | some e =>
        obtain ⟨fn, t, b, size, bytes, z, i0, i1, i2, i3, p, ed, h1, h2, _⟩ := hclone f e hc
        exact ⟨fn, h1, names f fn h1, by rw [h2]; rfl⟩
end Go.Abs
namespace Go.Abs
variable {P : Program}
def Ev (p : Nat → Prop) : Prop := ∃ K, ∀ k, K ≤ k → p k
theorem Ev.of {p : Nat → Prop} (n : Nat) (h : ∀ k, p (k + n)) : Ev p := ⟨n, fun k hk => by
  obtain ⟨m, rfl⟩ : ∃ m, k = m + n := ⟨k - n, by omega⟩
  exact h m⟩
theorem Ev.and {p q : Nat → Prop} (h : Ev p) (g : Ev q) : Ev fun k => p k ∧ q k := by
  obtain ⟨K, h⟩ := h
  obtain ⟨L, g⟩ := g
  exact ⟨K + L, fun k hk => ⟨h k (by omega), g k (by omega)⟩⟩
theorem Ev.mono {p q : Nat → Prop} (h : Ev p) (n : Nat) (g : ∀ k, p k → q (k + n)) : Ev q := by
  obtain ⟨K, h⟩ := h
  exact ⟨K + n, fun k hk => by
    obtain ⟨m, rfl⟩ : ∃ m, k = m + n := ⟨k - n, by omega⟩
    exact g m (h m (by omega))⟩
theorem Ev.shift {p : Nat → Prop} (n : Nat) (h : Ev p) : Ev fun k => p (k + n) := by
  obtain ⟨K, h⟩ := h
  exact ⟨K, fun k hk => h _ (by omega)⟩
def Ans (P : Program) (cfg : Cfg) (f : Nat) (args : List AV) (lo : Nat) (σ : Sto) (r : AV) (σ' : Sto) : Prop := Ev fun k => callF P cfg k f args lo σ = some (r, σ')
end Go.Abs
namespace Go.Abs
variable {P : Program}
theorem nilEqA_left {t : TypeId} {a b : AV} (h : a.isPtr = false) (h1 : a ≠ .nilp) (h2 : a ≠ .nilIface) (h3 : ∀ t v, a ≠ .iface t v) : nilEqA P t a b = false := by
  unfold nilEqA
  split <;> simp_all [AV.isPtr]
@[simp] theorem nilEqA_int {t : TypeId} {k : IntKind} {n : Int} {b : AV} : nilEqA P t (.int k n) b = false := nilEqA_left rfl (by simp) (by simp) (by simp)
@[simp] theorem nilEqA_bool {t : TypeId} {x : Bool} {b : AV} : nilEqA P t (.bool x) b = false := nilEqA_left rfl (by simp) (by simp) (by simp)
@[simp] theorem nilEqA_str {t : TypeId} {x : ByteArray} {b : AV} : nilEqA P t (.str x) b = false := nilEqA_left rfl (by simp) (by simp) (by simp)
@[simp] theorem nilEqA_agg {t : TypeId} {x : List AV} {b : AV} : nilEqA P t (.agg x) b = false := nilEqA_left rfl (by simp) (by simp) (by simp)
section
variable {t : TypeId} {x y : Operand} {k : IntKind} (a b : Int)
@[simp] theorem binA_geq : binA P .geq t x y (.int k a) (.int k b) = some (.bool (decide (a ≥ b))) := by
  simp only [binA, nilEqA_int, AV.conc, reduceCtorEq, false_and, Bool.false_eq_true, and_false, if_false]
  cases k <;> rfl
@[simp] theorem binA_leq : binA P .leq t x y (.int k a) (.int k b) = some (.bool (decide (a ≤ b))) := by
  simp only [binA, nilEqA_int, AV.conc, reduceCtorEq, false_and, Bool.false_eq_true, and_false, if_false]
  cases k <;> rfl
@[simp] theorem binA_lss : binA P .lss t x y (.int k a) (.int k b) = some (.bool (decide (a < b))) := by
  simp only [binA, nilEqA_int, AV.conc, reduceCtorEq, false_and, Bool.false_eq_true, and_false, if_false]
  cases k <;> rfl
@[simp] theorem binA_gtr : binA P .gtr t x y (.int k a) (.int k b) = some (.bool (decide (a > b))) := by
  simp only [binA, nilEqA_int, AV.conc, reduceCtorEq, false_and, Bool.false_eq_true, and_false, if_false]
  cases k <;> rfl
@[simp] theorem binA_eql : binA P .eql t x y (.int k a) (.int k b) = some (.bool (a == b)) := by
  simp only [binA, nilEqA_int, AV.conc, reduceCtorEq, false_and, Bool.false_eq_true, and_false, if_false]
  cases k <;> rfl
@[simp] theorem binA_neq : binA P .neq t x y (.int k a) (.int k b) = some (.bool (a != b)) := by
  simp only [binA, nilEqA_int, AV.conc, reduceCtorEq, false_and, Bool.false_eq_true, and_false, if_false]
  cases k <;> rfl
@[simp] theorem binA_add : binA P .add t x y (.int k a) (.int k b) = some (.int k (k.wrap (a + b))) := by
  simp only [binA, nilEqA_int, AV.conc, reduceCtorEq, false_and, Bool.false_eq_true, and_false, if_false]
  cases k <;> rfl
@[simp] theorem binA_sub : binA P .sub t x y (.int k a) (.int k b) = some (.int k (k.wrap (a - b))) := by
  simp only [binA, nilEqA_int, AV.conc, reduceCtorEq, false_and, Bool.false_eq_true, and_false, if_false]
  cases k <;> rfl
end
@[simp] theorem unA_not (b : Bool) : unA P .not (.bool b) = some (.bool (!b)) := by cases b <;> rfl
end Go.Abs
namespace Go.Abs
variable {P : Program} {cfg : Cfg} {fn lo : Nat}
def nocall : Caller := fun _ _ _ _ => none
def CallLe (c d : Caller) : Prop := ∀ f args lo σ x, c f args lo σ = some x → d f args lo σ = some x
theorem nocall_le (d : Caller) : CallLe nocall d := fun _ _ _ _ _ h => by cases h
theorem lentGo_le {f : Nat} {c d : Caller} (h : ∀ args lo σ x, c f args lo σ = some x → d f args lo σ = some x) {lo : Nat} {σ : Sto} {b y1 y2 : Nat} {args : List AV} {x : AV × Sto} (e : lentGo c f lo σ b y1 y2 args = some x) : lentGo d f lo σ b y1 y2 args = some x := by
  unfold lentGo at e ⊢
  split
  · rename_i hσ
    rw [hσ] at e
    simp only at e
    split
    · rename_i hlo
      rw [if_pos hlo] at e
      split
      · rename_i cs0 htk
        rw [htk] at e
        simp only at e
        cases hc : c f args 0 (.box cs0 false :: [y1, y2].map (blkAt σ)) with
        | none => rw [hc] at e; cases e
        | some q => rw [h _ _ _ _ hc]; rw [hc] at e; exact e
      · rename_i htk; rw [htk] at e; cases e
    · rename_i hlo; rw [if_neg hlo] at e; cases e
  · rename_i hn
    split at e
    · rename_i hσ; exact absurd hσ (hn _)
    · cases e
theorem lentA_le {sl : Nat → Nat × Nat} {f : Nat} {c d : Caller} (h : ∀ args lo σ x, c f args lo σ = some x → d f args lo σ = some x) {lo : Nat} {σ : Sto} {args : List AV} {x : AV × Sto} (e : lentA sl c f lo σ args = some x) : lentA sl d f lo σ args = some x := by
  unfold lentA at e
  split at e
  · rename_i b rest
    split at e
    · rename_i hf
      show (if AV.frees rest = true then lentGo d f lo σ b (sl b).1 (sl b).2 (.ptr 0 0 :: rest) else none) = some x
      rw [if_pos hf]; exact lentGo_le h e
    · cases e
  · rename_i b cs rest
    split at e
    · rename_i hf
      show (if AV.frees cs = true ∧ AV.frees rest = true then lentGo d f lo σ b (sl b).1 (sl b).2 (.agg (.ptr 0 0 :: cs) :: rest) else none) = some x
      rw [if_pos hf]; exact lentGo_le h e
    · cases e
  · cases e
theorem enterA_le {c d : Caller} (h : CallLe c d) {caller lo f : Nat} {σ : Sto} {args : List AV} {x : AV × Sto} (e : enterA P cfg c caller lo σ f args = some x) : enterA P cfg d caller lo σ f args = some x := by
  unfold enterA at e ⊢
  split
  · rename_i hc; rw [hc] at e; exact e
  · rename_i hc; rw [hc] at e; simp only at e
    split
    · rename_i he; rw [he] at e; exact e
    · rename_i he; rw [he] at e; simp only at e
      split
      · rename_i hm; rw [hm] at e; exact h _ _ _ _ _ e
      · rename_i hm; rw [hm] at e; simp only at e
        split
        · rename_i hs; rw [hs] at e; simp only at e
          unfold readW at e ⊢
          split at e
          · rename_i hfa
            rw [if_pos hfa]
            cases hcc : c f _ _ _ with
            | none => rw [hcc] at e; cases e
            | some q => rw [h _ _ _ _ _ hcc]; rw [hcc] at e; exact e
          · cases e
        · rename_i hs; rw [hs] at e; cases e
      · rename_i hm; rw [hm] at e; simp only at e
        split
        · rename_i hs; rw [hs] at e; exact h _ _ _ _ _ e
        · rename_i hs; rw [hs] at e; cases e
      · rename_i hm; rw [hm] at e; simp only at e
        split
        · rename_i hs; rw [hs] at e; simp only at e
          cases hcc : c f _ _ _ with
          | none => rw [hcc] at e; cases e
          | some q => rw [h _ _ _ _ _ hcc]; rw [hcc] at e; exact e
        · rename_i hs; rw [hs] at e; cases e
      · rename_i hm; rw [hm] at e; simp only at e
        split
        · rename_i hs; rw [hs] at e; exact lentA_le (h f) e
        · rename_i hs; rw [hs] at e; cases e
      · rename_i hm; rw [hm] at e; simp only at e
        split
        · rename_i hs; rw [hs] at e; simp only at e
          cases hcc : c f _ _ _ with
          | none => rw [hcc] at e; cases e
          | some q => rw [h _ _ _ _ _ hcc]; rw [hcc] at e; exact e
        · rename_i hs; rw [hs] at e; cases e
theorem opA_le {c d : Caller} (h : CallLe c d) {caller lo : Nat} {fr : List AV} {σ : Sto} {o : Op} {x : AV × Sto} (e : opA P cfg c caller lo fr σ o = some x) : opA P cfg d caller lo fr σ o = some x := by
  cases o
  case call cl =>
    simp only [opA] at e ⊢
    unfold callA at e ⊢
    split
    · rename_i ha; rw [ha] at e; cases e
    · rename_i args ha
      rw [ha] at e
      simp only at e
      split
      · rename_i b hb; rw [hb] at e; exact e
      · rename_i x' hx
        rw [hx] at e; simp only at e
        split
        · rename_i he; rw [he] at e; exact enterA_le h e
        · rename_i hn; split at e
          · rename_i he; exact absurd he (hn _ _ _)
          · cases e
      · rename_i hx; rw [hx] at e; cases e
  all_goals exact e
theorem opsA_le {c d : Caller} (h : CallLe c d) {caller lo : Nat} {ops : Array Oper} : ∀ {l : List Oper} {fr : List AV} {σ : Sto} {x : List AV × Sto}, opsA P cfg c caller lo ops l fr σ = some x → opsA P cfg d caller lo ops l fr σ = some x
  | [], _, _, _, e => e
  | o :: rest, fr, σ, x, e => by
    simp only [opsA] at e ⊢
    split at e
    · rename_i hw
      split at e
      · rename_i ho
        simp only [opA_le h ho]
        exact opsA_le h e
      · cases e
    · exact opsA_le h e
    · cases e
theorem opsA_append {c : Caller} {caller lo : Nat} {ops : Array Oper} : ∀ {l l' : List Oper} {fr : List AV} {σ : Sto}, opsA P cfg c caller lo ops (l ++ l') fr σ = (match opsA P cfg c caller lo ops l fr σ with | some (fr', σ') => opsA P cfg c caller lo ops l' fr' σ' | none => none)
  | [], _, _, _ => rfl
  | o :: rest, l', fr, σ => by
    simp only [List.cons_append, opsA]
    split
    · split
      · exact opsA_append
      · rfl
    · exact opsA_append
    · rfl
def OK (P : Program) (cfg : Cfg) (c : Caller) (fn lo : Nat) (ops : Array Oper) (l : List Oper) (fr : List AV) (σ : Sto) (Q : List AV → Sto → Prop) : Prop := ∃ fr' σ', opsA P cfg c fn lo ops l fr σ = some (fr', σ') ∧ Q fr' σ'
def X (P : Program) (cfg : Cfg) (k fn lo : Nat) (c : Code) (fr : List AV) (σ : Sto) (Q : XE → List AV → Sto → Prop) : Prop := ∃ x fr' σ', exec P cfg k fn lo c fr σ = some (x, fr', σ') ∧ Q x fr' σ'
section
variable {c : Caller} {ops : Array Oper} {l : List Oper} {fr : List AV} {σ : Sto} {Q : List AV → Sto → Prop}
def segA (P : Program) (cfg : Cfg) (fn lo : Nat) (ops : Array Oper) (l : List Oper) (fr : List AV) (σ : Sto) : List AV × Sto := (opsA P cfg nocall fn lo ops l fr σ).getD ([], [])
theorem OK.nil (h : Q fr σ) : OK P cfg c fn lo ops [] fr σ Q := ⟨fr, σ, rfl, h⟩
theorem OK.seg (n : Nat) (h : (opsA P cfg nocall fn lo ops (l.take n) fr σ).isSome = true) (k : OK P cfg c fn lo ops (l.drop n) (segA P cfg fn lo ops (l.take n) fr σ).1 (segA P cfg fn lo ops (l.take n) fr σ).2 Q) : OK P cfg c fn lo ops l fr σ Q := by
  obtain ⟨fr', σ', e, hq⟩ := k
  refine ⟨fr', σ', ?_, hq⟩
  unfold segA at e
  cases h1 : opsA P cfg nocall fn lo ops (l.take n) fr σ with
  | none => rw [h1] at h; cases h
  | some q =>
    rw [h1] at e
    rw [← List.take_append_drop n l, opsA_append, opsA_le (nocall_le c) h1]
    exact e
theorem OK.op {o : Oper} {rest : List Oper} {v : AV} {σ1 : Sto} (hw : wantedA ops fr o = some true) (h : opA P cfg c fn lo fr σ o.op = some (v, σ1)) (k : OK P cfg c fn lo ops rest (putA fr o.dst v) σ1 Q) : OK P cfg c fn lo ops (o :: rest) fr σ Q := by
  obtain ⟨fr', σ', e, hq⟩ := k
  exact ⟨fr', σ', by simp only [opsA, hw, h]; exact e, hq⟩
theorem OK.skip {o : Oper} {rest : List Oper} (hw : wantedA ops fr o = some false) (k : OK P cfg c fn lo ops rest (putA fr o.dst undefA) σ Q) : OK P cfg c fn lo ops (o :: rest) fr σ Q := by
  obtain ⟨fr', σ', e, hq⟩ := k
  exact ⟨fr', σ', by simp only [opsA, hw]; exact e, hq⟩
theorem OK.bool {o : Oper} {rest : List Oper} (b : Bool) (hw : wantedA ops fr o = some true) (h : opA P cfg c fn lo fr σ o.op = some (.bool b, σ))
    (k1 : b = true → OK P cfg c fn lo ops rest (putA fr o.dst (.bool true)) σ Q) (k2 : b = false → OK P cfg c fn lo ops rest (putA fr o.dst (.bool false)) σ Q) : OK P cfg c fn lo ops (o :: rest) fr σ Q := by
  cases b with
  | true => exact OK.op hw h (k1 rfl)
  | false => exact OK.op hw h (k2 rfl)
theorem OK.reader {o : Oper} {rest : List Oper} {cl : Call} {g : Nat} {first cap args args' : List AV} {f : Operand} {r : AV} {σ1 : Sto} (ho : o.op = .call cl) (hw : wantedA ops fr o = some true) (hcal : cl.callee = .value f) (hf : evA cfg fr f = some (.func (.func g) first cap))
    (ha : evsA cfg fr cl.args.toList = some args) (h1 : cfg.clone g = none) (h2 : cfg.ext g = none) (h3 : cfg.mode fn g = .reader) (hs : snapsW (snap lo 6) σ (first ++ args ++ cap) = some (args', σ1)) (hr : readW c g args' σ1 = some (r, σ1))
    (k : OK P cfg c fn lo ops rest (putA fr o.dst r) σ1 Q) : OK P cfg c fn lo ops (o :: rest) fr σ Q := by
  refine OK.op hw ?_ k
  rw [ho]
  simp only [opA, callA, ha, hcal, hf, enterA, h1, h2, h3, hs, hr]
theorem OK.readerB {o : Oper} {rest : List Oper} {cl : Call} {g : Nat} {first cap args args' : List AV} {f : Operand} {σ1 : Sto} (b : Bool) (ho : o.op = .call cl) (hw : wantedA ops fr o = some true) (hcal : cl.callee = .value f) (hf : evA cfg fr f = some (.func (.func g) first cap))
    (ha : evsA cfg fr cl.args.toList = some args) (h1 : cfg.clone g = none) (h2 : cfg.ext g = none) (h3 : cfg.mode fn g = .reader) (hs : snapsW (snap lo 6) σ (first ++ args ++ cap) = some (args', σ1)) (hr : readW c g args' σ1 = some (.bool b, σ1))
    (k1 : b = true → OK P cfg c fn lo ops rest (putA fr o.dst (.bool true)) σ1 Q) (k2 : b = false → OK P cfg c fn lo ops rest (putA fr o.dst (.bool false)) σ1 Q) : OK P cfg c fn lo ops (o :: rest) fr σ Q := by
  cases b with
  | true => exact OK.reader ho hw hcal hf ha h1 h2 h3 hs hr (k1 rfl)
  | false => exact OK.reader ho hw hcal hf ha h1 h2 h3 hs hr (k2 rfl)
theorem OK.rd {o : Oper} {rest : List Oper} {cl : Call} {g : Nat} (args args' : List AV) (r : AV) (ho : o.op = .call cl) (hw : wantedA ops fr o = some true) (hcal : cl.callee = .value (.func g))
    (ha : evsA cfg fr cl.args.toList = some args) (h1 : cfg.clone g = none) (h2 : cfg.ext g = none) (h3 : cfg.mode fn g = .reader) (hs : snapsW (snap lo 6) σ args = some (args', σ)) (hr : readW c g args' σ = some (r, σ))
    (k : OK P cfg c fn lo ops rest (putA fr o.dst r) σ Q) : OK P cfg c fn lo ops (o :: rest) fr σ Q :=
  OK.reader (first := []) (cap := []) ho hw hcal rfl ha h1 h2 h3 (by simpa using hs) hr k
theorem OK.rdB {o : Oper} {rest : List Oper} {cl : Call} {g : Nat} (args args' : List AV) (b : Bool) (ho : o.op = .call cl) (hw : wantedA ops fr o = some true) (hcal : cl.callee = .value (.func g))
    (ha : evsA cfg fr cl.args.toList = some args) (h1 : cfg.clone g = none) (h2 : cfg.ext g = none) (h3 : cfg.mode fn g = .reader) (hs : snapsW (snap lo 6) σ args = some (args', σ)) (hr : readW c g args' σ = some (.bool b, σ))
    (k1 : b = true → OK P cfg c fn lo ops rest (putA fr o.dst (.bool true)) σ Q) (k2 : b = false → OK P cfg c fn lo ops rest (putA fr o.dst (.bool false)) σ Q) : OK P cfg c fn lo ops (o :: rest) fr σ Q := by
  cases b with
  | true => exact OK.rd args args' _ ho hw hcal ha h1 h2 h3 hs hr (k1 rfl)
  | false => exact OK.rd args args' _ ho hw hcal ha h1 h2 h3 hs hr (k2 rfl)
end
section
variable {k : Nat} {fr : List AV} {σ : Sto} {Q : XE → List AV → Sto → Prop}
theorem X.mono {a : Code} {Q' : XE → List AV → Sto → Prop} (h : X P cfg k fn lo a fr σ Q) (g : ∀ x fr σ, Q x fr σ → Q' x fr σ) : X P cfg k fn lo a fr σ Q' := by
  obtain ⟨x, fr', σ', e, hq⟩ := h
  exact ⟨x, fr', σ', e, g _ _ _ hq⟩
def XE.then (next : List AV → Sto → Prop) (Q : XE → List AV → Sto → Prop) : XE → List AV → Sto → Prop
  | .normal, fr, σ => next fr σ
  | x, fr, σ => Q x fr σ
theorem X.skip (h : Q .normal fr σ) : X P cfg (k + 1) fn lo .skip fr σ Q := ⟨_, _, _, rfl, h⟩
theorem X.ret (h : Q .ret fr σ) : X P cfg (k + 1) fn lo .ret fr σ Q := ⟨_, _, _, rfl, h⟩
theorem X.exit {id : Nat} (h : Q (.exit id) fr σ) : X P cfg (k + 1) fn lo (.exit id) fr σ Q := ⟨_, _, _, rfl, h⟩
theorem X.scope {a : Code} (h : X P cfg k fn lo a fr σ Q) : X P cfg (k + 1) fn lo (.scope a) fr σ Q := h
theorem X.seq {a b : Code} (h : X P cfg k fn lo a fr σ (XE.then (fun fr σ => X P cfg k fn lo b fr σ Q) Q)) : X P cfg (k + 1) fn lo (.seq a b) fr σ Q := by
  obtain ⟨x, fr', σ', e, hq⟩ := h
  cases x with
  | normal =>
    obtain ⟨x2, fr2, σ2, e2, hq2⟩ := hq
    exact ⟨x2, fr2, σ2, by simp only [exec, execW, e, seqW]; exact e2, hq2⟩
  | exit id => exact ⟨_, _, _, by simp only [exec, execW, e, seqW], hq⟩
  | ret => exact ⟨_, _, _, by simp only [exec, execW, e, seqW], hq⟩
theorem X.loop {a : Code} (dead : List Nat) (hd : cfg.dead fn (firstId a) = dead) (h : X P cfg k fn lo a (clearA' dead fr) σ (XE.then (fun fr' σ' => X P cfg k fn lo (.loop a) (gcA dead σ.length fr' σ').1 (gcA dead σ.length fr' σ').2 Q) Q)) : X P cfg (k + 1) fn lo (.loop a) fr σ Q := by
  subst hd
  obtain ⟨x, fr', σ', e, hq⟩ := h
  cases x with
  | normal =>
    obtain ⟨x2, fr2, σ2, e2, hq2⟩ := hq
    exact ⟨x2, fr2, σ2, by simp only [exec, execW, e, loopW, seqW]; exact e2, hq2⟩
  | exit id => exact ⟨_, _, _, by simp only [exec, execW, e, loopW, seqW], hq⟩
  | ret => exact ⟨_, _, _, by simp only [exec, execW, e, loopW, seqW], hq⟩
theorem X.cond {x : Operand} {a b : Code} (t : Bool) (hc : evA cfg fr x = some (.bool t)) (h1 : t = true → X P cfg k fn lo a fr σ Q) (h2 : t = false → X P cfg k fn lo b fr σ Q) : X P cfg (k + 1) fn lo (.cond x a b) fr σ Q := by
  cases t with
  | true => obtain ⟨x, fr', σ', e, hq⟩ := h1 rfl; exact ⟨x, fr', σ', by simp only [exec, execW, condW, hc]; exact e, hq⟩
  | false => obtain ⟨x, fr', σ', e, hq⟩ := h2 rfl; exact ⟨x, fr', σ', by simp only [exec, execW, condW, hc]; exact e, hq⟩
def XE.inBlock (id : Nat) (Q : XE → List AV → Sto → Prop) : XE → List AV → Sto → Prop
  | .exit id', fr, σ => if id' = id then Q .normal fr σ else Q (.exit id') fr σ
  | x, fr, σ => Q x fr σ
theorem X.block {id : Nat} {a : Code} (h : X P cfg k fn lo a fr σ (XE.inBlock id Q)) : X P cfg (k + 1) fn lo (.block id a) fr σ Q := by
  obtain ⟨x, fr', σ', e, hq⟩ := h
  cases x with
  | normal => exact ⟨_, _, _, by simp only [exec, execW, e, blockW], hq⟩
  | ret => exact ⟨_, _, _, by simp only [exec, execW, e, blockW], hq⟩
  | exit id' =>
    simp only [XE.inBlock] at hq
    split at hq
    · rename_i hid; exact ⟨.normal, fr', σ', by simp only [exec, execW, e, blockW]; rw [if_pos hid], hq⟩
    · rename_i hid; exact ⟨.exit id', fr', σ', by simp only [exec, execW, e, blockW]; rw [if_neg hid], hq⟩
theorem X.region {id : Nat} {ops : Array Oper} (h : OK P cfg (callW P (exec P cfg k)) fn lo ops ops.toList fr σ (fun fr σ => Q .normal fr σ)) : X P cfg (k + 1) fn lo (.region id ops false) fr σ Q := by
  obtain ⟨fr', σ', e, hq⟩ := h
  exact ⟨_, fr', σ', by simp only [exec, execW, e, normW, Option.map_some], hq⟩
theorem X.rounds {a : Code} {K : Nat} (dead : List Nat) (hd : cfg.dead fn (firstId a) = dead) (I : Nat → List AV → Sto → Prop)
    (round : ∀ m fr σ, I m fr σ → ∀ k, K ≤ k → X P cfg k fn lo a (clearA' dead fr) σ (XE.then (fun fr' σ' => ∃ m', m' < m ∧ I m' (gcA dead σ.length fr' σ').1 (gcA dead σ.length fr' σ').2) Q)) :
    ∀ {m : Nat} {fr : List AV} {σ : Sto}, I m fr σ → ∀ {k : Nat}, K + m + 1 ≤ k → X P cfg k fn lo (.loop a) fr σ Q := by
  intro m
  induction m using Nat.strongRecOn with
  | ind m ih =>
    intro fr σ hI k hk
    obtain ⟨k1, rfl⟩ : ∃ k1, k = k1 + 1 := ⟨k - 1, by omega⟩
    refine X.loop dead hd ((round m fr σ hI k1 (by omega)).mono fun x fr' σ' hq => ?_)
    cases x with
    | normal =>
      obtain ⟨m', hlt, hI'⟩ := hq
      exact ih m' hlt hI' (by omega)
    | exit id => exact hq
    | ret => exact hq
end
def givesA (P : Program) (n : Nat) (rs : Array ResultVar) (fr : List AV) (σ : Sto) : Option AV :=
  match resultsA P σ fr rs.toList with
  | some vs => match snap n 6 σ (tupleA vs) with
    | some (r, _) => if r.free then some r else none
    | none => none
  | none => none
def XE.leaves : XE → Bool
  | .exit _ => false
  | _ => true
theorem reader_of {k f : Nat} {fnn : Func} {b : Code} {args : List AV} {r : AV} {σ : Sto} (hf : P.funcs[f]? = some fnn) (hb : fnn.body = some b) (hfr : AV.frees args = true)
    (h : X P cfg k f 0 b (args ++ List.replicate (fnn.ntmps - args.length) undefA) [] (fun x fr' σ' => x.leaves = true ∧ givesA P 0 fnn.results fr' σ' = some r)) :
    readW (callF P cfg k) f args σ = some (r, σ) := by
  obtain ⟨x, fr', σ', e, hx, h1⟩ := h
  unfold givesA at h1
  split at h1
  · rename_i vs h2
    split at h1
    · rename_i r' σ3 h3
      split at h1
      · rename_i h4
        cases h1
        unfold readW callF callW
        simp only [hf, hb, e, hfr, if_true]
        cases x with
        | exit id => cases hx
        | normal => simp only [finA, h2, Option.map_some, h3, h4, if_true]
        | ret => simp only [finA, h2, Option.map_some, h3, h4, if_true]
      · cases h1
    · cases h1
  · cases h1
theorem fin_bool {n : Nat} {rs : Array ResultVar} {fr : List AV} {σ : Sto} (b : Bool) {b' : Bool} (h : givesA P n rs fr σ = some (.bool b)) (e : b = b') : givesA P n rs fr σ = some (.bool b') := by rw [h, e]
end Go.Abs
namespace Go.Abs
variable {P : Program} {cfg : Cfg} {fn lo : Nat}
def DK (P : Program) (cfg : Cfg) (c : Caller) (fn lo : Nat) (ops : Array Oper) (l : List Oper) (fr : List AV) (σ : Sto) (Q : List AV → Sto → Prop) : Prop :=
  ∀ tr, ∃ tr' fr' σ', drawA P cfg c fn lo ops l tr fr σ = some (tr', fr', σ') ∧ Q fr' σ'
theorem drawA_tr {c : Caller} {ops : Array Oper} : ∀ {l : List Oper} {tr : List (Option Nat)} {fr : List AV} {σ : Sto}, drawA P cfg c fn lo ops l tr fr σ = (drawA P cfg c fn lo ops l [] fr σ).map fun x => (tr ++ x.1, x.2)
  | [], tr, fr, σ => by simp [drawA]
  | o :: rest, tr, fr, σ => by
    simp only [drawA]
    split
    · split
      · rw [drawA_tr (tr := tr ++ _), drawA_tr (tr := [] ++ _)]
        simp [Function.comp_def]
      · rfl
    · rw [drawA_tr (tr := tr ++ _), drawA_tr (tr := [] ++ _)]
      simp [Function.comp_def]
    · rfl
theorem drawA_le {c d : Caller} (h : CallLe c d) {ops : Array Oper} : ∀ {l : List Oper} {tr : List (Option Nat)} {fr : List AV} {σ : Sto} {x : List (Option Nat) × List AV × Sto}, drawA P cfg c fn lo ops l tr fr σ = some x → drawA P cfg d fn lo ops l tr fr σ = some x
  | [], _, _, _, _, e => e
  | o :: rest, tr, fr, σ, x, e => by
    simp only [drawA] at e ⊢
    split at e
    · split at e
      · rename_i ho
        simp only [opA_le h ho]
        exact drawA_le h e
      · cases e
    · exact drawA_le h e
    · cases e
theorem drawA_append {c : Caller} {ops : Array Oper} : ∀ {l l' : List Oper} {tr : List (Option Nat)} {fr : List AV} {σ : Sto}, drawA P cfg c fn lo ops (l ++ l') tr fr σ = (match drawA P cfg c fn lo ops l tr fr σ with | some (tr', fr', σ') => drawA P cfg c fn lo ops l' tr' fr' σ' | none => none)
  | [], _, _, _, _ => rfl
  | o :: rest, l', tr, fr, σ => by
    simp only [List.cons_append, drawA]
    split
    · split
      · exact drawA_append
      · rfl
    · exact drawA_append
    · rfl
section
variable {c : Caller} {ops : Array Oper} {l : List Oper} {fr : List AV} {σ : Sto} {Q : List AV → Sto → Prop}
def segD (P : Program) (cfg : Cfg) (fn lo : Nat) (ops : Array Oper) (l : List Oper) (fr : List AV) (σ : Sto) : List AV × Sto := ((drawA P cfg nocall fn lo ops l [] fr σ).getD ([], [], [])).2
theorem DK.nil (h : Q fr σ) : DK P cfg c fn lo ops [] fr σ Q := fun tr => ⟨tr, fr, σ, rfl, h⟩
theorem DK.seg (n : Nat) (h : (drawA P cfg nocall fn lo ops (l.take n) [] fr σ).isSome = true) (k : DK P cfg c fn lo ops (l.drop n) (segD P cfg fn lo ops (l.take n) fr σ).1 (segD P cfg fn lo ops (l.take n) fr σ).2 Q) : DK P cfg c fn lo ops l fr σ Q := by
  intro tr
  unfold segD at k
  cases h1 : drawA P cfg nocall fn lo ops (l.take n) [] fr σ with
  | none => rw [h1] at h; cases h
  | some q =>
    obtain ⟨t, f, s⟩ := q
    rw [h1] at k
    obtain ⟨tr', fr', σ', e, hq⟩ := k (tr ++ t)
    refine ⟨tr', fr', σ', ?_, hq⟩
    rw [← List.take_append_drop n l, drawA_append, drawA_tr, drawA_le (nocall_le c) h1]
    exact e
theorem DK.op {o : Oper} {rest : List Oper} {v : AV} {σ1 : Sto} (hw : wantedA ops fr o = some true) (h : opA P cfg c fn (if classA cfg fn o.op = 2 then lo else σ.length) fr σ o.op = some (v, σ1)) (k : DK P cfg c fn lo ops rest (putA fr o.dst v) σ1 Q) : DK P cfg c fn lo ops (o :: rest) fr σ Q := by
  intro tr
  obtain ⟨tr', fr', σ', e, hq⟩ := k (tr ++ [lookA cfg fr o.op])
  exact ⟨tr', fr', σ', by simp only [drawA, hw, h]; exact e, hq⟩
theorem DK.bool {o : Oper} {rest : List Oper} (b : Bool) (hw : wantedA ops fr o = some true) (h : opA P cfg c fn (if classA cfg fn o.op = 2 then lo else σ.length) fr σ o.op = some (.bool b, σ))
    (k1 : b = true → DK P cfg c fn lo ops rest (putA fr o.dst (.bool true)) σ Q) (k2 : b = false → DK P cfg c fn lo ops rest (putA fr o.dst (.bool false)) σ Q) : DK P cfg c fn lo ops (o :: rest) fr σ Q := by
  cases b with
  | true => exact DK.op hw h (k1 rfl)
  | false => exact DK.op hw h (k2 rfl)
theorem DK.rd {o : Oper} {rest : List Oper} {cl : Call} {g : Nat} (args args' : List AV) (r : AV) (ho : o.op = .call cl) (hw : wantedA ops fr o = some true) (hcal : cl.callee = .value (.func g))
    (ha : evsA cfg fr cl.args.toList = some args) (h1 : cfg.clone g = none) (h2 : cfg.ext g = none) (h3 : cfg.mode fn g = .reader) (hs : snapsW (snap σ.length 6) σ args = some (args', σ)) (hr : readW c g args' σ = some (r, σ))
    (k : DK P cfg c fn lo ops rest (putA fr o.dst r) σ Q) : DK P cfg c fn lo ops (o :: rest) fr σ Q := by
  have hcl : classA cfg fn o.op ≠ 2 := by
    rw [ho]
    simp [classA, hcal, h1, h2, h3]
  refine DK.op hw ?_ k
  rw [if_neg hcl, ho]
  simp only [opA, callA, ha, hcal, evA, enterA, List.nil_append, List.append_nil, h1, h2, h3, hs, hr]
theorem DK.rdB {o : Oper} {rest : List Oper} {cl : Call} {g : Nat} (args args' : List AV) (b : Bool) (ho : o.op = .call cl) (hw : wantedA ops fr o = some true) (hcal : cl.callee = .value (.func g))
    (ha : evsA cfg fr cl.args.toList = some args) (h1 : cfg.clone g = none) (h2 : cfg.ext g = none) (h3 : cfg.mode fn g = .reader) (hs : snapsW (snap σ.length 6) σ args = some (args', σ)) (hr : readW c g args' σ = some (.bool b, σ))
    (k1 : b = true → DK P cfg c fn lo ops rest (putA fr o.dst (.bool true)) σ Q) (k2 : b = false → DK P cfg c fn lo ops rest (putA fr o.dst (.bool false)) σ Q) : DK P cfg c fn lo ops (o :: rest) fr σ Q := by
  cases b with
  | true => exact DK.rd args args' _ ho hw hcal ha h1 h2 h3 hs hr (k1 rfl)
  | false => exact DK.rd args args' _ ho hw hcal ha h1 h2 h3 hs hr (k2 rfl)
end
theorem X.draw {k : Nat} {fr : List AV} {σ : Sto} {Q : XE → List AV → Sto → Prop} {id : Nat} {ops : Array Oper} (h1 : drawOk cfg fn ops = true) (h2 : ops.all (fun o => o.dst.all (· < fr.length)) = true) (h3 : pairsA cfg fn ops = [])
    (h : DK P cfg (callW P (exec P cfg k)) fn lo ops ops.toList fr σ (fun fr σ => Q .normal fr σ)) : X P cfg (k + 1) fn lo (.region id ops true) fr σ Q := by
  obtain ⟨tr', fr', σ', e, hq⟩ := h []
  refine ⟨_, fr', σ', ?_, hq⟩
  simp only [exec, execW, regionA, h1, h2, h3, e, normW, Bool.and_true, if_true, List.all_nil, Option.map_some]
theorem idx_op {c : Caller} {lo' : Nat} {fr : List AV} {σ : Sto} {o : Op} {t elem : TypeId} {x i : Operand} {sz : Nat} {es : List AV} {ex : Bool} {k : IntKind} {n : Int} {e : AV} (ho : o = .indexAddr t x i) (hu : P.underlying t = some (.slice elem)) (hs : szOf P elem = some sz)
    (hx : evA cfg fr x = some (.list es ex)) (hi : evA cfg fr i = some (.int k n)) (hn : 0 ≤ n) (he : es[n.toNat]? = some e) (hl : e.cells.length = sz) : opA P cfg c fn lo' fr σ o = some (.ro e.cells 0, σ) := by
  subst ho
  simp [opA, op2, hx, hi, indexAddrA, hu, hs, hn, he, hl, sameA]
theorem add_op {c : Caller} {lo' : Nat} {fr : List AV} {σ : Sto} {o : Op} {t t' : TypeId} {x y : Operand} {k : IntKind} {a b d : Int} (ho : o = .binOp .add t x y t') (hx : evA cfg fr x = some (.int k a)) (hy : evA cfg fr y = some (.int k b)) (hw : k.wrap (a + b) = d) :
    opA P cfg c fn lo' fr σ o = some (.int k d, σ) := by
  subst ho
  simp [opA, op2, hx, hy, sameA, hw]
theorem wrap64 {n : Int} (h1 : -9223372036854775808 ≤ n) (h2 : n < 9223372036854775808) : IntKind.wrap .i64 n = n := by
  simp only [IntKind.wrap]
  have e1 : (2 : Int) ^ IntKind.i64.bits = 18446744073709551616 := by decide
  have e2 : (2 : Int) ^ (IntKind.i64.bits - 1) = 9223372036854775808 := by decide
  rw [e1, e2]
  simp only [IntKind.signed, Bool.true_and, decide_eq_true_eq]
  split <;> omega
theorem OK.val {c : Caller} {ops : Array Oper} {fr : List AV} {σ : Sto} {Q : List AV → Sto → Prop} {o : Oper} {rest : List Oper} (v : AV) (hw : wantedA ops fr o = some true) (h : ∀ lo', opA P cfg c fn lo' fr σ o.op = some (v, σ)) (k : OK P cfg c fn lo ops rest (putA fr o.dst v) σ Q) : OK P cfg c fn lo ops (o :: rest) fr σ Q := OK.op hw (h _) k
theorem DK.val {c : Caller} {ops : Array Oper} {fr : List AV} {σ : Sto} {Q : List AV → Sto → Prop} {o : Oper} {rest : List Oper} (v : AV) (hw : wantedA ops fr o = some true) (h : ∀ lo', opA P cfg c fn lo' fr σ o.op = some (v, σ)) (k : DK P cfg c fn lo ops rest (putA fr o.dst v) σ Q) : DK P cfg c fn lo ops (o :: rest) fr σ Q := DK.op hw (h _) k
end Go.Abs
namespace Go.Abs
mutual
theorem within_of_blocks {K : Nat → Bool} : ∀ {a : AV}, a.blocks = [] → a.within K = true
  | .iface _ v, h => by simp only [AV.blocks] at h; simp only [AV.within]; exact within_of_blocks h
  | .agg cs, h => by simp only [AV.blocks] at h; simp only [AV.within]; exact withins_of_blocks h
  | .tuple cs, h => by simp only [AV.blocks] at h; simp only [AV.within]; exact withins_of_blocks h
  | .func _ f c, h => by
    simp only [AV.blocks, List.append_eq_nil_iff] at h
    simp only [AV.within, withins_of_blocks h.1, withins_of_blocks h.2, Bool.and_self]
  | .list es _, h => by simp only [AV.blocks] at h; simp only [AV.within]; exact withins_of_blocks h
  | .ro cs _, h => by simp only [AV.blocks] at h; simp only [AV.within]; exact withins_of_blocks h
  | .ptr b _, h => by simp [AV.blocks] at h
  | .eptr b _ _ _, h => by simp [AV.blocks] at h
  | .sl b _ _ _, h => by simp [AV.blocks] at h
  | .bsl b _ _, h => by simp [AV.blocks] at h
  | .bool _, _ => rfl
  | .int _ _, _ => rfl
  | .str _, _ => rfl
  | .nilIface, _ => rfl
  | .nilFunc, _ => rfl
  | .nilp, _ => rfl
  | .opq, _ => rfl
theorem withins_of_blocks {K : Nat → Bool} : ∀ {as : List AV}, AV.blockss as = [] → AV.withins K as = true
  | [], _ => rfl
  | a :: as, h => by
    simp only [AV.blockss, List.append_eq_nil_iff] at h
    simp only [AV.withins, within_of_blocks h.1, withins_of_blocks h.2, Bool.and_self]
end
theorem reachA_nil {n0 : Nat} {σ : Sto} : ∀ {k : Nat}, reachA n0 σ k [] = []
  | 0 => rfl
  | k + 1 => by simp only [reachA, List.flatMap_nil, addNew]; exact reachA_nil
theorem withinS_nil {n0 : Nat} : ∀ {σ : Sto} {b : Nat}, ((σ.take (n0 - b)).flatMap fun x => AV.blockss x.parts) = [] → withinS n0 [] b σ = true
  | [], _, _ => rfl
  | x :: σ, b, h => by
    simp only [withinS, Bool.and_eq_true, Bool.or_eq_true, Bool.not_eq_true']
    by_cases hb : b < n0
    · obtain ⟨m, hm⟩ : ∃ m, n0 - b = m + 1 := ⟨n0 - b - 1, by omega⟩
      rw [hm, List.take_succ_cons, List.flatMap_cons, List.append_eq_nil_iff] at h
      refine ⟨.inr (withins_of_blocks h.1), withinS_nil ?_⟩
      rw [show n0 - (b + 1) = m by omega]; exact h.2
    · refine ⟨.inl (by simp [keptA, hb]), withinS_nil ?_⟩
      rw [show n0 - (b + 1) = 0 by omega]; rfl
theorem blankA_nil {n0 : Nat} : ∀ {σ : Sto} {b : Nat}, b + σ.length ≤ n0 → blankA n0 [] b σ = σ
  | [], _, _ => rfl
  | x :: σ, b, h => by
    simp only [List.length_cons] at h
    simp only [blankA]
    rw [if_pos (by simp [keptA]; omega), blankA_nil (by omega)]
theorem gcA_none {dead : List Nat} {n0 : Nat} {fr : List AV} {σ : Sto} (hd : dead.isEmpty = false) (h1 : AV.blockss (clearA' dead fr) = []) (h2 : ((σ.take n0).flatMap fun x => AV.blockss x.parts) = []) :
    gcA dead n0 fr σ = (clearA' dead fr, σ.take n0) := by
  unfold gcA
  rw [hd]
  simp only [Bool.false_eq_true, if_false, h1, h2, List.append_nil, addNew, reachA_nil, List.foldl_nil]
  rw [if_pos (by rw [withins_of_blocks h1, withinS_nil (by rw [Nat.sub_zero]; exact h2)]; rfl), blankA_nil (by simp; omega)]
theorem blockss_map {α : Type} {f : α → AV} (h : ∀ x, (f x).blocks = []) : ∀ xs : List α, AV.blockss (xs.map f) = []
  | [] => rfl
  | x :: xs => by simp only [List.map_cons, AV.blockss, h x, blockss_map h xs, List.append_nil]
theorem frees_map {α : Type} {f : α → AV} (h : ∀ x, (f x).free = true) : ∀ xs : List α, AV.frees (xs.map f) = true
  | [] => rfl
  | x :: xs => by simp only [List.map_cons, AV.frees, h x, frees_map h xs, Bool.and_self]
theorem round_end {I : Nat → List AV → Sto → Prop} {dead : List Nat} {n0 m : Nat} {fr : List AV} {σ : Sto} (E : List AV) (S : Sto) (h1 : clearA' dead fr = E) (h2 : σ = S) (hd : dead.isEmpty = false) (h3 : AV.blockss E = [])
    (h4 : ((S.take n0).flatMap fun x => AV.blockss x.parts) = []) (h : ∃ m', m' < m ∧ I m' E (S.take n0)) : ∃ m', m' < m ∧ I m' (gcA dead n0 fr σ).1 (gcA dead n0 fr σ).2 := by
  subst h1 h2
  rw [gcA_none hd h3 h4]
  exact h
theorem X.rounds2 {P : Program} {cfg : Cfg} {fn lo : Nat} {Q : XE → List AV → Sto → Prop} {a : Code} {K : Nat} (dead : List Nat) (hd : cfg.dead fn (firstId a) = dead) (hne : dead.isEmpty = false) (I : Nat → List AV → Sto → Prop)
    (round : ∀ m fr σ, I m fr σ → ∀ k, K ≤ k → X P cfg k fn lo a (clearA' dead fr) σ (XE.then (fun fr' σ' => ∃ E S, clearA' dead fr' = E ∧ σ' = S ∧ AV.blockss E = [] ∧ ((S.take σ.length).flatMap fun x => AV.blockss x.parts) = [] ∧ ∃ m', m' < m ∧ I m' E (S.take σ.length)) Q)) :
    ∀ {m : Nat} {fr : List AV} {σ : Sto}, I m fr σ → ∀ {k : Nat}, K + m + 1 ≤ k → X P cfg k fn lo (.loop a) fr σ Q :=
  X.rounds dead hd I fun m fr σ hI k hk => (round m fr σ hI k hk).mono fun x fr' σ' hq => by
    cases x with
    | normal =>
      obtain ⟨E, S, h1, h2, h3, h4, h⟩ := hq
      exact round_end (I := I) E S h1 h2 hne h3 h4 h
    | exit id => exact hq
    | ret => exact hq
end Go.Abs
namespace Go.Abs
variable {P : Program} {cfg : Cfg} {fn lo : Nat}
section
variable {c : Caller} {ops : Array Oper} {fr : List AV} {σ : Sto} {Q : List AV → Sto → Prop} {o : Oper} {rest : List Oper}
theorem OK.dec (p : Prop) [Decidable p] (hw : wantedA ops fr o = some true) (h : opA P cfg c fn lo fr σ o.op = some (.bool (decide p), σ))
    (k1 : p → OK P cfg c fn lo ops rest (putA fr o.dst (.bool true)) σ Q) (k2 : ¬p → OK P cfg c fn lo ops rest (putA fr o.dst (.bool false)) σ Q) : OK P cfg c fn lo ops (o :: rest) fr σ Q := by
  by_cases hp : p
  · rw [decide_eq_true hp] at h; exact OK.op hw h (k1 hp)
  · rw [decide_eq_false hp] at h; exact OK.op hw h (k2 hp)
theorem OK.ndec (p : Prop) [Decidable p] (hw : wantedA ops fr o = some true) (h : opA P cfg c fn lo fr σ o.op = some (.bool (!decide p), σ))
    (k1 : ¬p → OK P cfg c fn lo ops rest (putA fr o.dst (.bool true)) σ Q) (k2 : p → OK P cfg c fn lo ops rest (putA fr o.dst (.bool false)) σ Q) : OK P cfg c fn lo ops (o :: rest) fr σ Q := by
  by_cases hp : p
  · rw [decide_eq_true hp] at h; exact OK.op hw h (k2 hp)
  · rw [decide_eq_false hp] at h; exact OK.op hw h (k1 hp)
theorem DK.dec (p : Prop) [Decidable p] (hw : wantedA ops fr o = some true) (h : opA P cfg c fn (if classA cfg fn o.op = 2 then lo else σ.length) fr σ o.op = some (.bool (decide p), σ))
    (k1 : p → DK P cfg c fn lo ops rest (putA fr o.dst (.bool true)) σ Q) (k2 : ¬p → DK P cfg c fn lo ops rest (putA fr o.dst (.bool false)) σ Q) : DK P cfg c fn lo ops (o :: rest) fr σ Q := by
  by_cases hp : p
  · rw [decide_eq_true hp] at h; exact DK.op hw h (k1 hp)
  · rw [decide_eq_false hp] at h; exact DK.op hw h (k2 hp)
theorem DK.ndec (p : Prop) [Decidable p] (hw : wantedA ops fr o = some true) (h : opA P cfg c fn (if classA cfg fn o.op = 2 then lo else σ.length) fr σ o.op = some (.bool (!decide p), σ))
    (k1 : ¬p → DK P cfg c fn lo ops rest (putA fr o.dst (.bool true)) σ Q) (k2 : p → DK P cfg c fn lo ops rest (putA fr o.dst (.bool false)) σ Q) : DK P cfg c fn lo ops (o :: rest) fr σ Q := by
  by_cases hp : p
  · rw [decide_eq_true hp] at h; exact DK.op hw h (k2 hp)
  · rw [decide_eq_false hp] at h; exact DK.op hw h (k1 hp)
theorem OK.at {l : List Oper} (E : List AV) (S : Sto) (h1 : fr = E) (h2 : σ = S) (k : OK P cfg c fn lo ops l E S Q) : OK P cfg c fn lo ops l fr σ Q := by subst h1 h2; exact k
theorem DK.at {l : List Oper} (E : List AV) (S : Sto) (h1 : fr = E) (h2 : σ = S) (k : DK P cfg c fn lo ops l E S Q) : DK P cfg c fn lo ops l fr σ Q := by subst h1 h2; exact k
theorem OK.segE {l : List Oper} (n : Nat) (E : List AV) (S : Sto) (h : opsA P cfg nocall fn lo ops (l.take n) fr σ = some (E, S)) (k : OK P cfg c fn lo ops (l.drop n) E S Q) : OK P cfg c fn lo ops l fr σ Q := by
  obtain ⟨fr', σ', e, hq⟩ := k
  refine ⟨fr', σ', ?_, hq⟩
  rw [← List.take_append_drop n l, opsA_append, opsA_le (nocall_le c) h]
  exact e
theorem DK.segE {l : List Oper} (n : Nat) (E : List AV) (S : Sto) (h : (drawA P cfg nocall fn lo ops (l.take n) [] fr σ).map (·.2) = some (E, S)) (k : DK P cfg c fn lo ops (l.drop n) E S Q) : DK P cfg c fn lo ops l fr σ Q := by
  intro tr
  cases h1 : drawA P cfg nocall fn lo ops (l.take n) [] fr σ with
  | none => rw [h1] at h; cases h
  | some q =>
    obtain ⟨t, f, s⟩ := q
    rw [h1] at h
    simp only [Option.map_some, Option.some.injEq, Prod.mk.injEq] at h
    obtain ⟨rfl, rfl⟩ := h
    obtain ⟨tr', fr', σ', e, hq⟩ := k (tr ++ t)
    refine ⟨tr', fr', σ', ?_, hq⟩
    rw [← List.take_append_drop n l, drawA_append, drawA_tr, drawA_le (nocall_le c) h1]
    exact e
end
theorem X.at {k : Nat} {a : Code} {fr : List AV} {σ : Sto} {Q : XE → List AV → Sto → Prop} (E : List AV) (S : Sto) (h1 : fr = E) (h2 : σ = S) (h : X P cfg k fn lo a E S Q) : X P cfg k fn lo a fr σ Q := by subst h1 h2; exact h
theorem X.condT {k : Nat} {fr : List AV} {σ : Sto} {Q : XE → List AV → Sto → Prop} {x : Operand} {a b : Code} (hc : evA cfg fr x = some (.bool true)) (h1 : X P cfg k fn lo a fr σ Q) : X P cfg (k + 1) fn lo (.cond x a b) fr σ Q := X.cond true hc (fun _ => h1) (fun h => by cases h)
theorem X.condF {k : Nat} {fr : List AV} {σ : Sto} {Q : XE → List AV → Sto → Prop} {x : Operand} {a b : Code} (hc : evA cfg fr x = some (.bool false)) (h1 : X P cfg k fn lo b fr σ Q) : X P cfg (k + 1) fn lo (.cond x a b) fr σ Q := X.cond false hc (fun h => by cases h) (fun _ => h1)
theorem X.cond' {k : Nat} {fr : List AV} {σ : Sto} {Q : XE → List AV → Sto → Prop} {x : Operand} {a b : Code} (p : Prop) [Decidable p] (hc : evA cfg fr x = some (.bool (decide p))) (h1 : p → X P cfg k fn lo a fr σ Q) (h2 : ¬p → X P cfg k fn lo b fr σ Q) : X P cfg (k + 1) fn lo (.cond x a b) fr σ Q :=
  X.cond (decide p) hc (fun h => h1 (of_decide_eq_true h)) (fun h => h2 (of_decide_eq_false h))
theorem X.loop1 {k : Nat} {fr : List AV} {σ : Sto} {Q : XE → List AV → Sto → Prop} {a : Code} (hd : cfg.dead fn (firstId a) = []) (h : X P cfg k fn lo a fr σ (XE.then (fun fr' σ' => X P cfg k fn lo (.loop a) fr' σ' Q) Q)) : X P cfg (k + 1) fn lo (.loop a) fr σ Q :=
  X.loop [] hd h
theorem idx_map {α : Type} {g : α → AV} {d : α} {c : Caller} {lo' : Nat} {fr : List AV} {σ : Sto} {o : Op} {t elem : TypeId} {x i : Operand} {sz : Nat} {xs : List α} {ex : Bool} {k : IntKind} {n : Int} (ho : o = .indexAddr t x i) (hu : P.underlying t = some (.slice elem)) (hs : szOf P elem = some sz)
    (hx : evA cfg fr x = some (.list (xs.map g) ex)) (hi : evA cfg fr i = some (.int k n)) (hl : (g (xs.getD n.toNat d)).cells.length = sz) (hn : 0 ≤ n) (he : n.toNat < xs.length) : opA P cfg c fn lo' fr σ o = some (.ro (g (xs.getD n.toNat d)).cells 0, σ) := by
  have e : xs.getD n.toNat d = xs[n.toNat] := by simp [List.getD, he]
  rw [e] at hl ⊢
  exact idx_op ho hu hs hx hi hn (by simp [he]) hl
theorem arr_op {c : Caller} {lo' : Nat} {fr : List AV} {σ : Sto} {o : Op} {t elem : TypeId} {x i : Operand} {len : Nat} {cs : List AV} {k : IntKind} {n : Int} {e : AV} (ho : o = .index t x i) (hu : P.underlying t = some (.array len elem)) (hs : szOf P elem = some 1) (ha : isAggO P elem = some false)
    (hx : evA cfg fr x = some (.agg cs)) (hi : evA cfg fr i = some (.int k n)) (hn : 0 ≤ n) (hl : n < len) (he : cs[n.toNat]? = some e) : opA P cfg c fn lo' fr σ o = some (e, σ) := by
  subst ho
  simp [opA, op2, hx, hi, indexA, hu, hs, hn, hl, partA, ha, he, sameA]
theorem OK.inl {kk : Nat} {ops : Array Oper} {fr : List AV} {σ : Sto} {Q : List AV → Sto → Prop} {o : Oper} {rest : List Oper} {cl : Call} {g : Nat} {first cap args : List AV} {f : Operand} {fnn : Func} {b : Code} (ho : o.op = .call cl) (hw : wantedA ops fr o = some true) (hcal : cl.callee = .value f) (hf : evA cfg fr f = some (.func (.func g) first cap))
    (ha : evsA cfg fr cl.args.toList = some args) (h1 : cfg.clone g = none) (h2 : cfg.ext g = none) (h3 : cfg.mode fn g = .inline) (hfn : P.funcs[g]? = some fnn) (hb : fnn.body = some b)
    (h : X P cfg kk g lo b ((first ++ args ++ cap) ++ List.replicate (fnn.ntmps - (first ++ args ++ cap).length) undefA) σ (fun x fr' σ' => x.leaves = true ∧ ∃ vs, resultsA P σ' fr' fnn.results.toList = some vs ∧ OK P cfg (callW P (exec P cfg kk)) fn lo ops rest (putA fr o.dst (tupleA vs)) σ' Q)) : OK P cfg (callW P (exec P cfg kk)) fn lo ops (o :: rest) fr σ Q := by
  obtain ⟨x, fr', σ', e, hx, vs, hv, hk⟩ := h
  refine OK.op hw ?_ hk
  rw [ho]
  simp only [opA, callA, ha, hcal, hf, enterA, h1, h2, h3]
  unfold callW
  simp only [hfn, hb, e]
  cases x with
  | exit id => cases hx
  | normal => simp only [finA, hv, Option.map_some]
  | ret => simp only [finA, hv, Option.map_some]
theorem giv {P : Program} {n : Nat} {rs : Array ResultVar} {fr : List AV} {σ : Sto} {r r' : AV} (h : givesA P n rs fr σ = some r) (e : r = r') : givesA P n rs fr σ = some r' := by rw [h, e]
section
variable {c : Caller} {ops : Array Oper} {fr : List AV} {σ : Sto} {Q : List AV → Sto → Prop}
theorem OK.rdP {o : Oper} {rest : List Oper} {cl : Call} {g : Nat} (args args' : List AV) (p : Prop) [Decidable p] (ho : o.op = .call cl) (hw : wantedA ops fr o = some true) (hcal : cl.callee = .value (.func g))
    (ha : evsA cfg fr cl.args.toList = some args) (h1 : cfg.clone g = none) (h2 : cfg.ext g = none) (h3 : cfg.mode fn g = .reader) (hs : snapsW (snap lo 6) σ args = some (args', σ)) (hr : readW c g args' σ = some (.bool (decide p), σ))
    (k1 : p → OK P cfg c fn lo ops rest (putA fr o.dst (.bool true)) σ Q) (k2 : ¬p → OK P cfg c fn lo ops rest (putA fr o.dst (.bool false)) σ Q) : OK P cfg c fn lo ops (o :: rest) fr σ Q :=
  OK.rdB args args' (decide p) ho hw hcal ha h1 h2 h3 hs hr (fun h => k1 (of_decide_eq_true h)) (fun h => k2 (of_decide_eq_false h))
theorem DK.rdP {o : Oper} {rest : List Oper} {cl : Call} {g : Nat} (args args' : List AV) (p : Prop) [Decidable p] (ho : o.op = .call cl) (hw : wantedA ops fr o = some true) (hcal : cl.callee = .value (.func g))
    (ha : evsA cfg fr cl.args.toList = some args) (h1 : cfg.clone g = none) (h2 : cfg.ext g = none) (h3 : cfg.mode fn g = .reader) (hs : snapsW (snap σ.length 6) σ args = some (args', σ)) (hr : readW c g args' σ = some (.bool (decide p), σ))
    (k1 : p → DK P cfg c fn lo ops rest (putA fr o.dst (.bool true)) σ Q) (k2 : ¬p → DK P cfg c fn lo ops rest (putA fr o.dst (.bool false)) σ Q) : DK P cfg c fn lo ops (o :: rest) fr σ Q :=
  DK.rdB args args' (decide p) ho hw hcal ha h1 h2 h3 hs hr (fun h => k1 (of_decide_eq_true h)) (fun h => k2 (of_decide_eq_false h))
theorem OK.opS {o : Oper} {rest : List Oper} (v : AV) (S : Sto) (hw : wantedA ops fr o = some true) (h : opA P cfg c fn lo fr σ o.op = some (v, S)) (k : OK P cfg c fn lo ops rest (putA fr o.dst v) S Q) : OK P cfg c fn lo ops (o :: rest) fr σ Q := OK.op hw h k
theorem bool_t {p : Prop} [Decidable p] (h : p) : AV.bool true = AV.bool (decide p) := by rw [decide_eq_true h]
theorem bool_f {p : Prop} [Decidable p] (h : ¬p) : AV.bool false = AV.bool (decide p) := by rw [decide_eq_false h]
end
end Go.Abs
namespace Go.Abs
variable {P : Program} {cfg : Cfg} {fn lo : Nat}
mutual
theorem within_of_sub {K : Nat → Bool} : ∀ {a : AV}, (∀ b ∈ a.blocks, K b = true) → a.within K = true
  | .iface _ v, h => by simp only [AV.blocks] at h; simp only [AV.within]; exact within_of_sub h
  | .agg cs, h => by simp only [AV.blocks] at h; simp only [AV.within]; exact withins_of_sub h
  | .tuple cs, h => by simp only [AV.blocks] at h; simp only [AV.within]; exact withins_of_sub h
  | .func _ f c, h => by
    simp only [AV.blocks, List.mem_append] at h
    simp only [AV.within, withins_of_sub (fun b hb => h b (.inl hb)), withins_of_sub (fun b hb => h b (.inr hb)), Bool.and_self]
  | .list es _, h => by simp only [AV.blocks] at h; simp only [AV.within]; exact withins_of_sub h
  | .ro cs _, h => by simp only [AV.blocks] at h; simp only [AV.within]; exact withins_of_sub h
  | .ptr b _, h => h b (by simp [AV.blocks])
  | .eptr b _ _ _, h => h b (by simp [AV.blocks])
  | .sl b _ _ _, h => h b (by simp [AV.blocks])
  | .bsl b _ _, h => h b (by simp [AV.blocks])
  | .bool _, _ => rfl
  | .int _ _, _ => rfl
  | .str _, _ => rfl
  | .nilIface, _ => rfl
  | .nilFunc, _ => rfl
  | .nilp, _ => rfl
  | .opq, _ => rfl
theorem withins_of_sub {K : Nat → Bool} : ∀ {as : List AV}, (∀ b ∈ AV.blockss as, K b = true) → AV.withins K as = true
  | [], _ => rfl
  | a :: as, h => by
    simp only [AV.blockss, List.mem_append] at h
    simp only [AV.withins, within_of_sub (fun b hb => h b (.inl hb)), withins_of_sub (fun b hb => h b (.inr hb)), Bool.and_self]
end
def blkB (x : Blk) : List Nat := AV.blockss x.parts
def reachC (n0 : Nat) (css : List (List Nat)) : Nat → List Nat → List Nat
  | 0, L => L
  | k + 1, L => reachC n0 css k (addNew n0 (L.flatMap fun b => css.getD b []) L)
theorem reachA_num {n0 : Nat} {σ : Sto} {css : List (List Nat)} (h : σ.map blkB = css) : ∀ {k : Nat} {L : List Nat}, reachA n0 σ k L = reachC n0 css k L
  | 0, _ => rfl
  | k + 1, L => by
    simp only [reachA, reachC]
    rw [reachA_num h]
    congr 2
    subst h
    congr 1
    funext b
    simp only [List.getD, List.getElem?_map]
    cases σ[b]? <;> rfl
def withinC (n0 : Nat) (L : List Nat) : Nat → List (List Nat) → Bool
  | _, [] => true
  | b, x :: css => (!keptA n0 L b || x.all (keptA n0 L)) && withinC n0 L (b + 1) css
theorem withinS_num {n0 : Nat} {L : List Nat} : ∀ {σ : Sto} {b : Nat}, withinC n0 L b (σ.map blkB) = true → withinS n0 L b σ = true
  | [], _, _ => rfl
  | x :: σ, b, h => by
    simp only [List.map_cons, withinC, Bool.and_eq_true, Bool.or_eq_true] at h
    simp only [withinS, Bool.and_eq_true, Bool.or_eq_true]
    refine ⟨?_, withinS_num h.2⟩
    rcases h.1 with h1 | h1
    · exact .inl h1
    · exact .inr (withins_of_sub fun b hb => List.all_eq_true.1 h1 b hb)
def keepC (n0 : Nat) (bs : List Nat) (css : List (List Nat)) : List Nat := reachC n0 css (css.length - n0) (addNew n0 (bs ++ (css.take n0).flatten) [])
def topC (n0 : Nat) (L : List Nat) : Nat := L.foldl (fun a b => max a (b + 1)) n0
def okC (n0 : Nat) (bs : List Nat) (css : List (List Nat)) : Bool := bs.all (keptA n0 (keepC n0 bs css)) && withinC n0 (keepC n0 bs css) 0 css
theorem gcA_num {dead : List Nat} {n0 : Nat} {fr : List AV} {σ : Sto} {bs : List Nat} {css : List (List Nat)} (hd : dead.isEmpty = false) (h1 : AV.blockss (clearA' dead fr) = bs) (h2 : σ.map blkB = css) (h3 : okC n0 bs css = true) :
    gcA dead n0 fr σ = (clearA' dead fr, blankA n0 (keepC n0 bs css) 0 (σ.take (topC n0 (keepC n0 bs css)))) := by
  unfold gcA
  rw [hd]
  simp only [Bool.false_eq_true, if_false]
  have e1 : (σ.take n0).flatMap (fun x => AV.blockss x.parts) = (css.take n0).flatten := by
    subst h2
    rw [← List.map_take, List.flatMap_def]; rfl
  have e2 : σ.length = css.length := by rw [← h2, List.length_map]
  rw [h1, e1, reachA_num h2, e2]
  have h3' := h3
  unfold okC at h3'
  rw [Bool.and_eq_true] at h3'
  rw [if_pos]
  · rfl
  · rw [Bool.and_eq_true]
    refine ⟨withins_of_sub fun b hb => ?_, withinS_num ?_⟩
    · rw [h1] at hb
      exact List.all_eq_true.1 h3'.1 b hb
    · rw [h2]; exact h3'.2
theorem X.rounds3 {Q : XE → List AV → Sto → Prop} {a : Code} {K : Nat} (dead : List Nat) (hd : cfg.dead fn (firstId a) = dead) (hne : dead.isEmpty = false) (I : Nat → List AV → Sto → Prop)
    (round : ∀ m fr σ, I m fr σ → ∀ k, K ≤ k → X P cfg k fn lo a (clearA' dead fr) σ (XE.then (fun fr' σ' => ∃ E S bs css, clearA' dead fr' = E ∧ σ' = S ∧ AV.blockss E = bs ∧ S.map blkB = css ∧ okC σ.length bs css = true ∧ ∃ m', m' < m ∧ I m' E (blankA σ.length (keepC σ.length bs css) 0 (S.take (topC σ.length (keepC σ.length bs css))))) Q)) :
    ∀ {m : Nat} {fr : List AV} {σ : Sto}, I m fr σ → ∀ {k : Nat}, K + m + 1 ≤ k → X P cfg k fn lo (.loop a) fr σ Q :=
  X.rounds dead hd I fun m fr σ hI k hk => (round m fr σ hI k hk).mono fun x fr' σ' hq => by
    cases x with
    | normal =>
      obtain ⟨E, S, bs, css, h1, h2, h3, h4, h5, h⟩ := hq
      subst h1 h2
      show ∃ m', m' < m ∧ I m' _ _
      rw [gcA_num hne h3 h4 h5]
      exact h
    | exit id => exact hq
    | ret => exact hq
theorem snapsW_map {α : Type} {g : α → AV} {lo d : Nat} (h : ∀ x σ, snap lo d σ (g x) = some (g x, σ)) : ∀ {xs : List α} {σ : Sto}, snapsW (snap lo d) σ (xs.map g) = some (xs.map g, σ)
  | [], _ => rfl
  | x :: xs, σ => by simp only [List.map_cons, snapsW, h, snapsW_map h]
theorem snap_sl {lo d : Nat} {σ : Sto} {b g off len : Nat} : snap lo (d + 1) σ (.sl b g off len) = (match σ[b]? with
      | some (.rows es g' sz fz) =>
        if g' = g ∧ off + len ≤ es.length ∧ (fz = true ∨ lo ≤ b) then
          match snapsW (snap lo d) (σ.set b (.rows es g' sz true)) ((es.drop off).take len) with
          | some (es', σ') => some (.list es' false, σ')
          | none => none
        else none
      | _ => none) := rfl
theorem gives_sl {α : Type} {g : α → AV} (hg : ∀ x σ, snap 0 5 σ (g x) = some (g x, σ)) (hf : ∀ x, (g x).free = true) {rs : Array ResultVar} {fr : List AV} {σ : Sto} {b n sz : Nat} {ys : List α} (h1 : resultsA P σ fr rs.toList = some [.sl b n 0 ys.length]) (h2 : σ[b]? = some (.rows (ys.map g) n sz false)) :
    givesA P 0 rs fr σ = some (.list (ys.map g) false) := by
  unfold givesA
  rw [h1]
  have e1 : ((ys.map g).drop 0).take ys.length = ys.map g := by rw [List.drop_zero]; exact List.take_of_length_le (by simp)
  have e2 : snap 0 6 σ (.sl b n 0 ys.length) = some (.list (ys.map g) false, σ.set b (.rows (ys.map g) n sz true)) := by
    rw [snap_sl]
    simp only [h2]
    rw [if_pos (by simp), e1, snapsW_map hg]
  simp only [tupleA, e2, AV.free, frees_map hf, if_true]
theorem ap_sl {α : Type} {g : α → AV} {c : Caller} {caller lo' : Nat} {fr : List AV} {σ : Sto} {o : Op} {cl : Call} {sT xT elem : TypeId} {by_ : Nat} {z : AV} {b n : Nat} {ys : List α} {v : α} {ex : Bool} (ho : o = .call cl) (hc : cl.callee = .builtin .append) (hts : cl.argTypes[0]? = some sT) (htx : cl.argTypes[1]? = some xT)
    (hus : P.underlying sT = some (.slice elem)) (hux : P.underlying xT = some (.slice elem)) (hsz : szOf P elem = some 1) (hby : byOf P elem = some by_) (hz : zeroA P elem = some z) (hzl : z.cells.length = 1) (hb0 : 0 < by_) (hcell : ∀ x, (g x).cells = [g x]) (hisc : ∀ x, (g x).isCell = true)
    (ha : evsA cfg fr cl.args.toList = some [.sl b n 0 ys.length, .list [g v] ex]) (h2 : σ[b]? = some (.rows (ys.map g) n 1 false)) (hlo : lo' ≤ b) (hbd : (ys.length + 1 + 256) * by_ ≤ 2 ^ 46) {S : Sto} (hS : σ.set b (.rows ((ys ++ [v]).map g) (n + 1) 1 false) = S) :
    opA P cfg c caller lo' fr σ o = some (.sl b (n + 1) 0 (ys.length + 1), S) := by
  subst ho hS
  simp only [opA, callA, ha, hc, appendA, hts, htx, hus, hux, hsz, hby, hz, elemsA]
  simp only [hzl, hb0, and_self, if_true, Nat.lt_add_one, Nat.zero_lt_one, List.all_cons, List.all_nil, hcell, hisc, List.length_singleton, beq_self_eq_true, Bool.and_self, h2, hlo, Nat.zero_add, List.length_map, Nat.le_refl, List.isEmpty_cons, Bool.false_eq_true, if_false, hbd, List.map_append, List.map_cons, List.map_nil]
theorem mk_op {α : Type} {g : α → AV} {c : Caller} {lo' : Nat} {fr : List AV} {σ : Sto} {o : Op} {t elem : TypeId} {l cp : Operand} {n by_ : Nat} {x : α} (ho : o = .makeSlice t l cp) (hu : P.underlying t = some (.slice elem)) (hsz : szOf P elem = some 1) (hby : byOf P elem = some by_) (hz : zeroA P elem = some (g x)) (hl : (g x).cells.length = 1)
    (h1 : evA cfg fr l = some (.int .i64 (n : Int))) (h2 : evA cfg fr cp = some (.int .i64 (n : Int))) (hn : n < 2 ^ 40) (hb : by_ * n ≤ 2 ^ 46) {S : Sto} (hS : σ ++ [.rows ((List.replicate n x).map g) 0 1 false] = S) {b : Nat} (hbb : σ.length = b) :
    opA P cfg c fn lo' fr σ o = some (.sl b 0 0 n, S) := by
  subst ho hS hbb
  simp only [opA, opMakeSlice, h1, h2, makeSliceA, hu, hsz, hby, hz]
  rw [if_pos (by refine ⟨by omega, by omega, by omega, by rw [Int.toNat_natCast]; exact hb, hl, by omega⟩)]
  simp only [Int.toNat_natCast, List.map_replicate]
theorem idx_sl {α : Type} {g : α → AV} {c : Caller} {lo' : Nat} {fr : List AV} {σ : Sto} {o : Op} {t elem : TypeId} {x i : Operand} {sz b gn len : Nat} {k : IntKind} {n : Int} {xs : List α} {fz : Bool} (ho : o = .indexAddr t x i) (hu : P.underlying t = some (.slice elem)) (hs : szOf P elem = some sz)
    (hx : evA cfg fr x = some (.sl b gn 0 len)) (hi : evA cfg fr i = some (.int k n)) (hb : σ[b]? = some (.rows (xs.map g) gn sz fz)) (hn : 0 ≤ n) (he : n < len) : opA P cfg c fn lo' fr σ o = some (.eptr b gn n.toNat 0, σ) := by
  subst ho
  simp [opA, op2, hx, hi, indexAddrA, hu, hs, hn, he, hb, sameA]
theorem load_ep {α : Type} {g : α → AV} {d : α} {c : Caller} {lo' : Nat} {fr : List AV} {σ : Sto} {o : Op} {t : TypeId} {x : Operand} {sz b gn i : Nat} {xs : List α} {fz : Bool} {v : AV} (ho : o = .load t x) (hx : evA cfg fr x = some (.eptr b gn i 0)) (hb : σ[b]? = some (.rows (xs.map g) gn sz fz)) (hi : i < xs.length) (hr : readA P t (g (xs.getD i d)).cells 0 = some v) :
    opA P cfg c fn lo' fr σ o = some (v, σ) := by
  subst ho
  have e : xs.getD i d = xs[i] := by simp [List.getD, hi]
  rw [e] at hr
  simp [opA, op1, hx, loadA, placeA, hb, hi, hr, sameA]
theorem st_ep {α : Type} {g : α → AV} {d y : α} {c : Caller} {lo' : Nat} {fr : List AV} {σ : Sto} {o : Op} {t : TypeId} {x v : Operand} {sz b gn i : Nat} {xs : List α} {w : AV} (ho : o = .store t x v) (hx : evA cfg fr x = some (.eptr b gn i 0)) (hv : evA cfg fr v = some w) (hb : σ[b]? = some (.rows (xs.map g) gn sz false)) (hi : i < xs.length) (hlo : lo' ≤ b)
    (hsz : szOf P t = some 1) (hw : w.cells.length = 1) (hwc : w.cells.all AV.isCell = true) (hl : (g (xs.getD i d)).cells.length = 1) (hr : reshape (g (xs.getD i d)) (splice (g (xs.getD i d)).cells 0 w.cells) = g y) {S : Sto} (hS : σ.set b (.rows ((xs.set i y).map g) gn sz false) = S) :
    opA P cfg c fn lo' fr σ o = some (undefA, S) := by
  subst ho hS
  have e : xs.getD i d = xs[i] := by simp [List.getD, hi]
  rw [e] at hr hl
  simp [opA, opStore, hx, hv, storeA, hsz, hw, hwc, hb, hlo, hi, hl, hr, List.map_set]
theorem rem_op {c : Caller} {lo' : Nat} {fr : List AV} {σ : Sto} {o : Op} {t t' : TypeId} {x y : Operand} {a b : Int} (ho : o = .binOp .rem t x y t') (hx : evA cfg fr x = some (.int .i64 a)) (hy : evA cfg fr y = some (.int .i64 b)) (hb : binA P .rem t x y (.int .i64 a) (.int .i64 b) = some (.int .i64 (Int.tmod a b))) :
    opA P cfg c fn lo' fr σ o = some (.int .i64 (Int.tmod a b), σ) := by
  subst ho
  simp [opA, op2, hx, hy, hb, sameA]
theorem arr_addr {c : Caller} {lo' : Nat} {fr : List AV} {σ : Sto} {o : Op} {t elem : TypeId} {x i : Operand} {b off len n : Nat} (ho : o = .indexAddr t x i) (hu : P.underlying t = some (.array len elem)) (hs : szOf P elem = some 1)
    (hx : evA cfg fr x = some (.ptr b off)) (hi : evA cfg fr i = some (.int .i64 (n : Int))) (hn : n < len) : opA P cfg c fn lo' fr σ o = some (.ptr b (off + n), σ) := by
  subst ho
  have : (n : Int) < (len : Int) := by omega
  simp [opA, op2, hx, hi, indexAddrA, hu, hs, this, sameA, moveA]
theorem load_at {c : Caller} {lo' : Nat} {fr : List AV} {σ : Sto} {o : Op} {t : TypeId} {x : Operand} {b off : Nat} {cs : List AV} {fz : Bool} {v : AV} (ho : o = .load t x) (hx : evA cfg fr x = some (.ptr b off)) (hb : σ[b]? = some (.box cs fz)) (ha : isAggO P t = some false) (hv : cs[off]? = some v) :
    opA P cfg c fn lo' fr σ o = some (v, σ) := by
  subst ho
  simp [opA, op1, hx, loadA, placeA, hb, readA, ha, hv, sameA]
end Go.Abs
namespace Go.Abs
variable {P : Program} {cfg : Cfg} {fn lo : Nat}
section
variable {c : Caller} {ops : Array Oper} {fr : List AV} {σ : Sto} {Q : List AV → Sto → Prop}
theorem OK.rdQ {o : Oper} {rest : List Oper} {cl : Call} {g : Nat} {f : Operand} (args args' : List AV) (p : Prop) [Decidable p] (ho : o.op = .call cl) (hw : wantedA ops fr o = some true) (hcal : cl.callee = .value f) (hf : evA cfg fr f = some (.func (.func g) [] []))
    (ha : evsA cfg fr cl.args.toList = some args) (h1 : cfg.clone g = none) (h2 : cfg.ext g = none) (h3 : cfg.mode fn g = .reader) (hs : snapsW (snap lo 6) σ args = some (args', σ)) (hr : readW c g args' σ = some (.bool (decide p), σ))
    (k1 : p → OK P cfg c fn lo ops rest (putA fr o.dst (.bool true)) σ Q) (k2 : ¬p → OK P cfg c fn lo ops rest (putA fr o.dst (.bool false)) σ Q) : OK P cfg c fn lo ops (o :: rest) fr σ Q := by
  refine OK.readerB (first := []) (cap := []) (decide p) ho hw hcal hf ha h1 h2 h3 (by simpa using hs) hr (fun h => k1 (of_decide_eq_true h)) (fun h => k2 (of_decide_eq_false h))
end
end Go.Abs
namespace Go.Abs
variable {P : Program} {cfg : Cfg}
def ExecLe (r s : Exec) : Prop := ∀ fn lo c fr σ x, r fn lo c fr σ = some x → s fn lo c fr σ = some x
theorem callW_le {r s : Exec} (h : ExecLe r s) : CallLe (callW P r) (callW P s) := by
  intro f args lo σ x e
  unfold callW at e ⊢
  split at e
  · split at e
    · rename_i b hb
      unfold finA at e ⊢
      cases hr : r f lo b _ σ with
      | none => rw [hr] at e; cases e
      | some q => rw [hr] at e; simp only [h _ _ _ _ _ _ hr]; exact e
    · cases e
  · cases e
theorem execW_le {r s : Exec} (h : ExecLe r s) : ExecLe (execW P cfg r) (execW P cfg s) := by
  intro fn lo c fr σ x e
  have hc := callW_le (P := P) h
  cases c with
  | skip => exact e
  | label l => exact e
  | region i ops d =>
    cases d with
    | false =>
      simp only [execW, normW] at e ⊢
      cases ho : opsA P cfg (callW P r) fn lo ops ops.toList fr σ with
      | none => rw [ho] at e; cases e
      | some q => rw [ho] at e; rw [opsA_le hc ho]; exact e
    | true =>
      simp only [execW, normW, regionA] at e ⊢
      split at e
      · rename_i hd
        rw [if_pos hd]
        cases ho : drawA P cfg (callW P r) fn lo ops ops.toList [] fr σ with
        | none => rw [ho] at e; cases e
        | some q => rw [ho] at e; rw [drawA_le hc ho]; exact e
      · cases e
  | seq a b =>
    simp only [execW] at e ⊢
    cases ha : r fn lo a fr σ with
    | none => rw [ha] at e; cases e
    | some q =>
      obtain ⟨y, fr', σ'⟩ := q
      rw [ha] at e
      rw [h _ _ _ _ _ _ ha]
      cases y with
      | normal => exact h _ _ _ _ _ _ e
      | exit id => exact e
      | ret => exact e
  | cond o a b =>
    simp only [execW, condW] at e ⊢
    split at e
    · exact h _ _ _ _ _ _ e
    · exact h _ _ _ _ _ _ e
    · cases e
  | block i b =>
    simp only [execW] at e ⊢
    cases ha : r fn lo b fr σ with
    | none => rw [ha] at e; cases e
    | some q => rw [ha] at e; rw [h _ _ _ _ _ _ ha]; exact e
  | loop b =>
    simp only [execW] at e ⊢
    cases ha : r fn lo b (clearA' (cfg.dead fn (firstId b)) fr) σ with
    | none => rw [ha] at e; cases e
    | some q =>
      obtain ⟨y, fr', σ'⟩ := q
      rw [ha] at e
      rw [h _ _ _ _ _ _ ha]
      cases y with
      | normal => exact h _ _ _ _ _ _ e
      | exit id => exact e
      | ret => exact e
  | exit id => exact e
  | scope b => exact h _ _ _ _ _ _ e
  | ret => exact e
  | rangeFunc f p a b => exact e
  | goto l => exact e
  | refuse w => exact e
theorem exec_le1 : ∀ k, ExecLe (exec P cfg k) (exec P cfg (k + 1))
  | 0 => fun _ _ _ _ _ _ e => by cases e
  | k + 1 => execW_le (exec_le1 k)
theorem exec_le {k k' : Nat} (h : k ≤ k') : ExecLe (exec P cfg k) (exec P cfg k') := by
  induction k' with
  | zero => rw [Nat.le_zero.1 h]; exact fun _ _ _ _ _ _ e => e
  | succ k' ih =>
    rcases Nat.lt_or_ge k (k' + 1) with h1 | h1
    · exact fun fn lo c fr σ x e => exec_le1 k' _ _ _ _ _ _ (ih (by omega) _ _ _ _ _ _ e)
    · rw [show k = k' + 1 by omega]; exact fun _ _ _ _ _ _ e => e
theorem call_le {k k' : Nat} (h : k ≤ k') : CallLe (callW P (exec P cfg k)) (callW P (exec P cfg k')) := callW_le (exec_le h)
theorem readW_le {k k' : Nat} (h : k ≤ k') {f : Nat} {args : List AV} {r : AV} {σ σ' : Sto} (e : readW (callW P (exec P cfg k)) f args σ = some (r, σ)) : readW (callW P (exec P cfg k')) f args σ' = some (r, σ') := by
  unfold readW at e ⊢
  split at e
  · rename_i hf
    rw [if_pos hf]
    cases hc : callW P (exec P cfg k) f args 0 [] with
    | none => rw [hc] at e; cases e
    | some q =>
      rw [hc] at e
      rw [call_le h _ _ _ _ _ hc]
      simp only at e ⊢
      split at e
      · split at e
        · rename_i hr
          simp only [Option.some.injEq, Prod.mk.injEq, and_true] at e
          subst e
          simp only [hr, if_true]
        · cases e
      · cases e
  · cases e
end Go.Abs
namespace Go.Abs
variable {P : Program} {cfg : Cfg} {fn lo : Nat}
theorem st_op {kk : Nat} {fr : List AV} {σ σ1 : Sto} {o : Op} {cl : Call} {g : Nat} {first cap args args' : List AV} {shut : List (Nat × Nat × Nat)} {f : Operand} {fnn : Func} {b : Code} {QQ : AV → Sto → Prop} (ho : o = .call cl) (hcal : cl.callee = .value f) (hf : evA cfg fr f = some (.func (.func g) first cap))
    (ha : evsA cfg fr cl.args.toList = some args) (h1 : cfg.clone g = none) (h2 : cfg.ext g = none) (h3 : cfg.mode fn g = .state shut) (hs : snapsW (snap lo 6) σ (first ++ args ++ cap) = some (args', σ1)) (hfn : P.funcs[g]? = some fnn) (hb : fnn.body = some b)
    (h : X P cfg kk g lo b (args' ++ List.replicate (fnn.ntmps - args'.length) undefA) σ1 (fun x fr' σ' => x.leaves = true ∧ ∃ vs σ3 r σ4, resultsA P σ' fr' fnn.results.toList = some vs ∧ shutA lo σ' args' shut = some σ3 ∧ snap lo 6 σ3 (tupleA vs) = some (r, σ4) ∧ QQ r σ4)) :
    ∃ r σ4, opA P cfg (callW P (exec P cfg kk)) fn lo fr σ o = some (r, σ4) ∧ QQ r σ4 := by
  obtain ⟨x, fr', σ', e, hx, vs, σ3, r, σ4, hv, hsh, hsn, hk⟩ := h
  refine ⟨r, σ4, ?_, hk⟩
  subst ho
  have hcall : callW P (exec P cfg kk) g args' lo σ1 = some (tupleA vs, σ') := by
    unfold callW
    simp only [hfn, hb, e]
    cases x with
    | exit id => cases hx
    | normal => simp only [finA, hv, Option.map_some]
    | ret => simp only [finA, hv, Option.map_some]
  simp only [opA, callA, ha, hcal, hf, enterA, h1, h2, h3, hs, hcall, hsh, hsn]
section
variable {ops : Array Oper} {fr : List AV} {σ σ1 : Sto} {Q : List AV → Sto → Prop} {o : Oper} {rest : List Oper}
theorem OK.st {kk : Nat} {cl : Call} {g : Nat} {first cap args args' : List AV} {shut : List (Nat × Nat × Nat)} {f : Operand} {fnn : Func} {b : Code} (ho : o.op = .call cl) (hw : wantedA ops fr o = some true) (hcal : cl.callee = .value f) (hf : evA cfg fr f = some (.func (.func g) first cap))
    (ha : evsA cfg fr cl.args.toList = some args) (h1 : cfg.clone g = none) (h2 : cfg.ext g = none) (h3 : cfg.mode fn g = .state shut) (hs : snapsW (snap lo 6) σ (first ++ args ++ cap) = some (args', σ1)) (hfn : P.funcs[g]? = some fnn) (hb : fnn.body = some b)
    (h : X P cfg kk g lo b (args' ++ List.replicate (fnn.ntmps - args'.length) undefA) σ1 (fun x fr' σ' => x.leaves = true ∧ ∃ vs σ3 r σ4, resultsA P σ' fr' fnn.results.toList = some vs ∧ shutA lo σ' args' shut = some σ3 ∧ snap lo 6 σ3 (tupleA vs) = some (r, σ4) ∧ OK P cfg (callW P (exec P cfg kk)) fn lo ops rest (putA fr o.dst r) σ4 Q)) :
    OK P cfg (callW P (exec P cfg kk)) fn lo ops (o :: rest) fr σ Q := by
  obtain ⟨r, σ4, e, hk⟩ := st_op (QQ := fun r σ4 => OK P cfg (callW P (exec P cfg kk)) fn lo ops rest (putA fr o.dst r) σ4 Q) ho hcal hf ha h1 h2 h3 hs hfn hb h
  exact OK.op hw e hk
theorem DK.st {kk : Nat} {cl : Call} {g : Nat} {first cap args args' : List AV} {shut : List (Nat × Nat × Nat)} {f : Operand} {fnn : Func} {b : Code} (l0 : Nat) (hl0 : (if classA cfg fn o.op = 2 then lo else σ.length) = l0) (ho : o.op = .call cl) (hw : wantedA ops fr o = some true) (hcal : cl.callee = .value f) (hf : evA cfg fr f = some (.func (.func g) first cap))
    (ha : evsA cfg fr cl.args.toList = some args) (h1 : cfg.clone g = none) (h2 : cfg.ext g = none) (h3 : cfg.mode fn g = .state shut) (hs : snapsW (snap l0 6) σ (first ++ args ++ cap) = some (args', σ1)) (hfn : P.funcs[g]? = some fnn) (hb : fnn.body = some b)
    (h : X P cfg kk g l0 b (args' ++ List.replicate (fnn.ntmps - args'.length) undefA) σ1 (fun x fr' σ' => x.leaves = true ∧ ∃ vs σ3 r σ4, resultsA P σ' fr' fnn.results.toList = some vs ∧ shutA l0 σ' args' shut = some σ3 ∧ snap l0 6 σ3 (tupleA vs) = some (r, σ4) ∧ DK P cfg (callW P (exec P cfg kk)) fn lo ops rest (putA fr o.dst r) σ4 Q)) :
    DK P cfg (callW P (exec P cfg kk)) fn lo ops (o :: rest) fr σ Q := by
  obtain ⟨r, σ4, e, hk⟩ := st_op (QQ := fun r σ4 => DK P cfg (callW P (exec P cfg kk)) fn lo ops rest (putA fr o.dst r) σ4 Q) ho hcal hf ha h1 h2 h3 hs hfn hb h
  exact DK.op hw (by rw [hl0]; exact e) hk
theorem DK.opS {c : Caller} (v : AV) (S : Sto) (hw : wantedA ops fr o = some true) (h : opA P cfg c fn (if classA cfg fn o.op = 2 then lo else σ.length) fr σ o.op = some (v, S)) (k : DK P cfg c fn lo ops rest (putA fr o.dst v) S Q) : DK P cfg c fn lo ops (o :: rest) fr σ Q := DK.op hw h k
end
theorem call_of {k f : Nat} {fnn : Func} {b : Code} {args : List AV} {r : AV} (hf : P.funcs[f]? = some fnn) (hb : fnn.body = some b)
    (h : X P cfg k f 0 b (args ++ List.replicate (fnn.ntmps - args.length) undefA) [] (fun x fr' σ' => x.leaves = true ∧ resultsA P σ' fr' fnn.results.toList = some [r])) :
    ∃ σ', callF P cfg k f args 0 [] = some (r, σ') := by
  obtain ⟨x, fr', σ', e, hx, hv⟩ := h
  refine ⟨σ', ?_⟩
  unfold callF callW
  simp only [hf, hb, e]
  cases x with
  | exit id => cases hx
  | normal => simp only [finA, hv, Option.map_some, tupleA]
  | ret => simp only [finA, hv, Option.map_some, tupleA]
end Go.Abs
namespace Go.Abs
variable {P : Program} {cfg : Cfg}
mutual
def eqA : AV → AV → Bool
  | .bool a, .bool b => a == b
  | .int k a, .int l b => decide (k = l) && a == b
  | .agg as, .agg bs => eqsA as bs
  | .list as x, .list bs y => eqsA as bs && x == y
  | .nilIface, .nilIface => true
  | .nilp, .nilp => true
  | _, _ => false
def eqsA : List AV → List AV → Bool
  | [], [] => true
  | a :: as, b :: bs => eqA a b && eqsA as bs
  | _, _ => false
end
mutual
theorem eqA_eq : ∀ {a b : AV}, eqA a b = true → a = b
  | .bool a, b, h => by cases b <;> simp_all [eqA]
  | .int k a, b, h => by cases b <;> simp_all [eqA]
  | .agg as, b, h => by
    cases b with
    | agg bs => simp only [eqA] at h; rw [eqsA_eq h]
    | _ => simp [eqA] at h
  | .list as x, b, h => by
    cases b with
    | list bs y => simp only [eqA, Bool.and_eq_true, beq_iff_eq] at h; rw [eqsA_eq h.1, h.2]
    | _ => simp [eqA] at h
  | .nilIface, b, h => by cases b <;> simp_all [eqA]
  | .nilp, b, h => by cases b <;> simp_all [eqA]
  | .str _, _, h => by simp [eqA] at h
  | .iface _ _, _, h => by simp [eqA] at h
  | .tuple _, _, h => by simp [eqA] at h
  | .func _ _ _, _, h => by simp [eqA] at h
  | .nilFunc, _, h => by simp [eqA] at h
  | .ptr _ _, _, h => by simp [eqA] at h
  | .eptr _ _ _ _, _, h => by simp [eqA] at h
  | .ro _ _, _, h => by simp [eqA] at h
  | .sl _ _ _ _, _, h => by simp [eqA] at h
  | .bsl _ _ _, _, h => by simp [eqA] at h
  | .opq, _, h => by simp [eqA] at h
theorem eqsA_eq : ∀ {a b : List AV}, eqsA a b = true → a = b
  | [], b, h => by cases b <;> simp_all [eqsA]
  | a :: as, b, h => by
    cases b with
    | nil => simp [eqsA] at h
    | cons b bs => simp only [eqsA, Bool.and_eq_true] at h; rw [eqA_eq h.1, eqsA_eq h.2]
end
abbrev Tab := Nat → List AV → Option AV
def callT (tab : Tab) (call : Caller) : Caller := fun f args lo σ =>
  match tab f args with
  | some r => some (r, [])
  | none => call f args lo σ
def execWT (P : Program) (tab : Tab) (cfg : Cfg) (rec : Exec) (fn lo : Nat) (c : Code) (fr : List AV) (σ : Sto) : Option (XE × List AV × Sto) :=
  match c with
  | .region _ ops false => normW (opsA P cfg (callT tab (callW P rec)) fn lo ops ops.toList fr σ)
  | .region _ ops true => normW (regionA P cfg (callT tab (callW P rec)) fn lo ops fr σ)
  | c => execW P cfg rec fn lo c fr σ
def execT (P : Program) (tab : Tab) (cfg : Cfg) : (fuel : Nat) → Exec
  | 0 => fun _ _ _ _ _ => none
  | k + 1 => execWT P tab cfg (execT P tab cfg k)
def CallR (cfg : Cfg) (c d : Caller) : Prop := ∀ caller f, (cfg.mode caller f = .reader → ∀ args σ x, readW c f args σ = some x → readW d f args σ = some x) ∧ (cfg.mode caller f ≠ .reader → ∀ args lo σ x, c f args lo σ = some x → d f args lo σ = some x)
theorem enterA_R {c d : Caller} (h : CallR cfg c d) {caller lo f : Nat} {σ : Sto} {args : List AV} {x : AV × Sto} (e : enterA P cfg c caller lo σ f args = some x) : enterA P cfg d caller lo σ f args = some x := by
  have hh := h caller f
  unfold enterA at e ⊢
  split
  · rename_i hc; rw [hc] at e; exact e
  · rename_i hc; rw [hc] at e; simp only at e
    split
    · rename_i he; rw [he] at e; exact e
    · rename_i he; rw [he] at e; simp only at e
      split
      · rename_i hm; rw [hm] at e; exact hh.2 (by rw [hm]; simp) _ _ _ _ e
      · rename_i hm; rw [hm] at e; simp only at e
        split
        · rename_i hs; rw [hs] at e; exact hh.1 hm _ _ _ e
        · rename_i hs; rw [hs] at e; cases e
      · rename_i hm; rw [hm] at e; simp only at e
        split
        · rename_i hs; rw [hs] at e; exact hh.2 (by rw [hm]; simp) _ _ _ _ e
        · rename_i hs; rw [hs] at e; cases e
      · rename_i hm; rw [hm] at e; simp only at e
        split
        · rename_i hs; rw [hs] at e; simp only at e
          cases hcc : c f _ _ _ with
          | none => rw [hcc] at e; cases e
          | some q => rw [hh.2 (by rw [hm]; simp) _ _ _ _ hcc]; rw [hcc] at e; exact e
        · rename_i hs; rw [hs] at e; cases e
      · rename_i hm; rw [hm] at e; simp only at e
        split
        · rename_i hs; rw [hs] at e; exact lentA_le (hh.2 (by rw [hm]; simp)) e
        · rename_i hs; rw [hs] at e; cases e
      · rename_i hm; rw [hm] at e; simp only at e
        split
        · rename_i hs; rw [hs] at e; simp only at e
          cases hcc : c f _ _ _ with
          | none => rw [hcc] at e; cases e
          | some q => rw [hh.2 (by rw [hm]; simp) _ _ _ _ hcc]; rw [hcc] at e; exact e
        · rename_i hs; rw [hs] at e; cases e
theorem opA_R {c d : Caller} (h : CallR cfg c d) {caller lo : Nat} {fr : List AV} {σ : Sto} {o : Op} {x : AV × Sto} (e : opA P cfg c caller lo fr σ o = some x) : opA P cfg d caller lo fr σ o = some x := by
  cases o
  case call cl =>
    simp only [opA] at e ⊢
    unfold callA at e ⊢
    split
    · rename_i ha; rw [ha] at e; cases e
    · rename_i args ha
      rw [ha] at e
      simp only at e
      split
      · rename_i b hb; rw [hb] at e; exact e
      · rename_i x' hx
        rw [hx] at e; simp only at e
        split
        · rename_i he; rw [he] at e; exact enterA_R h e
        · rename_i hn; split at e
          · rename_i he; exact absurd he (hn _ _ _)
          · cases e
      · rename_i hx; rw [hx] at e; cases e
  all_goals exact e
theorem opsA_R {c d : Caller} (h : CallR cfg c d) {caller lo : Nat} {ops : Array Oper} : ∀ {l : List Oper} {fr : List AV} {σ : Sto} {x : List AV × Sto}, opsA P cfg c caller lo ops l fr σ = some x → opsA P cfg d caller lo ops l fr σ = some x
  | [], _, _, _, e => e
  | o :: rest, fr, σ, x, e => by
    simp only [opsA] at e ⊢
    split at e
    · split at e
      · rename_i ho
        simp only [opA_R h ho]
        exact opsA_R h e
      · cases e
    · exact opsA_R h e
    · cases e
theorem drawA_R {c d : Caller} (h : CallR cfg c d) {fn lo : Nat} {ops : Array Oper} : ∀ {l : List Oper} {tr : List (Option Nat)} {fr : List AV} {σ : Sto} {x : List (Option Nat) × List AV × Sto}, drawA P cfg c fn lo ops l tr fr σ = some x → drawA P cfg d fn lo ops l tr fr σ = some x
  | [], _, _, _, _, e => e
  | o :: rest, tr, fr, σ, x, e => by
    simp only [drawA] at e ⊢
    split at e
    · split at e
      · rename_i ho
        simp only [opA_R h ho]
        exact drawA_R h e
      · cases e
    · exact drawA_R h e
    · cases e
def TabOk (P : Program) (cfg : Cfg) (tab : Tab) (K : Nat) : Prop := ∀ f args r, tab f args = some r → (∀ caller, cfg.mode caller f = .reader) ∧ readW (callW P (exec P cfg K)) f args [] = some (r, []) ∧ ∃ s, snap 0 6 [] r = some (r, s)
theorem callT_R {tab : Tab} {K : Nat} (ht : TabOk P cfg tab K) {r s : Exec} (h : ExecLe r s) (hK : CallLe (callW P (exec P cfg K)) (callW P s)) : CallR cfg (callT tab (callW P r)) (callW P s) := by
  have hc := callW_le (P := P) h
  intro caller f
  constructor
  · intro _ args σ x e
    unfold readW at e ⊢
    split at e
    · rename_i hf
      rw [if_pos hf]
      unfold callT at e
      cases hq : tab f args with
      | none =>
        rw [hq] at e
        simp only at e
        cases hcc : callW P r f args 0 [] with
        | none => rw [hcc] at e; cases e
        | some q => rw [hc _ _ _ _ _ hcc]; rw [hcc] at e; exact e
      | some a =>
        rw [hq] at e
        simp only at e
        obtain ⟨_, h2, t, h3⟩ := ht f args a hq
        rw [h3] at e
        simp only at e
        unfold readW at h2
        rw [if_pos hf] at h2
        cases hcc : callW P (exec P cfg K) f args 0 [] with
        | none => rw [hcc] at h2; cases h2
        | some q =>
          rw [hK _ _ _ _ _ hcc]
          rw [hcc] at h2
          simp only at h2 ⊢
          split at h2
          · split at h2
            · rename_i hfr
              simp only [Option.some.injEq, Prod.mk.injEq, and_true] at h2
              subst h2
              rw [if_pos hfr] at e
              rw [if_pos hfr]
              exact e
            · cases h2
          · cases h2
    · cases e
  · intro hm args lo σ x e
    unfold callT at e
    cases hq : tab f args with
    | none => rw [hq] at e; exact hc _ _ _ _ _ e
    | some a => exact absurd ((ht f args a hq).1 caller) hm
theorem execT_ok {tab : Tab} {K : Nat} (ht : TabOk P cfg tab K) : ∀ k, ExecLe (execT P tab cfg k) (exec P cfg (K + k))
  | 0 => fun _ _ _ _ _ _ e => by cases e
  | k + 1 => by
    have ih := execT_ok ht k
    have hR := callT_R ht ih (call_le (Nat.le_add_right K k))
    intro fn lo c fr σ x e
    have hgen : execW P cfg (execT P tab cfg k) fn lo c fr σ = some x → exec P cfg (K + (k + 1)) fn lo c fr σ = some x := fun e => execW_le ih _ _ _ _ _ _ e
    cases c with
    | region i ops d =>
      cases d with
      | false =>
        show execW P cfg (exec P cfg (K + k)) fn lo (.region i ops false) fr σ = some x
        simp only [execT, execWT, normW] at e
        simp only [execW, normW]
        cases ho : opsA P cfg (callT tab (callW P (execT P tab cfg k))) fn lo ops ops.toList fr σ with
        | none => rw [ho] at e; cases e
        | some q => rw [ho] at e; rw [opsA_R hR ho]; exact e
      | true =>
        show execW P cfg (exec P cfg (K + k)) fn lo (.region i ops true) fr σ = some x
        simp only [execT, execWT, normW, regionA] at e
        simp only [execW, normW, regionA]
        split at e
        · rename_i hd
          rw [if_pos hd]
          cases ho : drawA P cfg (callT tab (callW P (execT P tab cfg k))) fn lo ops ops.toList [] fr σ with
          | none => rw [ho] at e; cases e
          | some q => rw [ho] at e; rw [drawA_R hR ho]; exact e
        · cases e
    | _ => exact hgen e
theorem readT_ok {tab : Tab} {K k : Nat} (ht : TabOk P cfg tab K) {f : Nat} {args : List AV} {r : AV} {σ σ' : Sto} (e : readW (callW P (execT P tab cfg k)) f args σ = some (r, σ)) {k' : Nat} (hk : K + k ≤ k') : readW (callW P (exec P cfg k')) f args σ' = some (r, σ') := by
  have h := callW_le (P := P) (execT_ok ht k)
  refine readW_le hk (σ := σ) ?_
  unfold readW at e ⊢
  split at e
  · rename_i hf
    rw [if_pos hf]
    cases hcc : callW P (execT P tab cfg k) f args 0 [] with
    | none => rw [hcc] at e; cases e
    | some q => rw [h _ _ _ _ _ hcc]; rw [hcc] at e; exact e
  · cases e
end Go.Abs
namespace Go.Abs
variable {P : Program}
theorem frees_append : ∀ (as bs : List AV), AV.frees (as ++ bs) = (AV.frees as && AV.frees bs)
  | [], bs => by simp [AV.frees]
  | a :: as, bs => by simp [AV.frees, frees_append as bs, Bool.and_assoc]
theorem frees_mem : ∀ {as : List AV}, (∀ a ∈ as, a.free = true) → AV.frees as = true
  | [], _ => rfl
  | a :: as, h => by
    have ih : AV.frees as = true := frees_mem fun b hb => h b (List.mem_cons_of_mem _ hb)
    simp only [AV.frees, h a (List.mem_cons_self), ih, Bool.and_self]
theorem contig_free {cs : List AV} : ∀ {fs : List Field} {n m : Nat}, contig P fs n = some m → (∀ f ∈ fs, AV.frees ((cs.drop f.offset).take (P.cellsOf f.type)) = true) → n ≤ m ∧ AV.frees ((cs.drop n).take (m - n)) = true
  | [], n, m, h, _ => by
    simp only [contig, Option.some.injEq] at h
    subst h
    exact ⟨Nat.le_refl _, by simp [AV.frees]⟩
  | f :: fs, n, m, h, hp => by
    simp only [contig] at h
    split at h
    · rename_i ho
      subst ho
      obtain ⟨h1, h2⟩ := contig_free h (fun f' hf' => hp f' (by simp [hf']))
      refine ⟨by omega, ?_⟩
      have e : (cs.drop f.offset).take (m - f.offset) = (cs.drop f.offset).take (P.cellsOf f.type) ++ (cs.drop (f.offset + P.cellsOf f.type)).take (m - (f.offset + P.cellsOf f.type)) := by
        rw [show m - f.offset = P.cellsOf f.type + (m - (f.offset + P.cellsOf f.type)) by omega, List.take_add, List.drop_drop]
      rw [e, frees_append, hp f (by simp), h2]; rfl
    · cases h
theorem rows_free {cs : List AV} {w : Nat} : ∀ {n : Nat}, (∀ i < n, AV.frees ((cs.drop (i * w)).take w) = true) → AV.frees (cs.take (n * w)) = true
  | 0, _ => by simp [AV.frees]
  | n + 1, h => by
    have ih := rows_free (n := n) (fun i hi => h i (by omega))
    rw [Nat.succ_mul, List.take_add, frees_append, ih, h n (by omega)]; rfl
theorem ty_frees {T : List TypeId} (hp : plainB P T = true) : ∀ (n : Nat) {t : TypeId} {cs : List AV}, t ∈ T → TyC P n t cs → AV.frees cs = true
  | 0, _, _, _, h => h.elim
  | n + 1, t, cs, ht, h => by
    have hpl := plain_at hp ht
    unfold TyC at h
    cases hu : P.underlying t with
    | none => rw [hu] at h; exact h.elim
    | some d =>
      rw [hu] at h hpl
      cases d with
      | bool => obtain ⟨b, rfl⟩ := h; rfl
      | int k => obtain ⟨m, rfl, _⟩ := h; rfl
      | string => obtain ⟨s, rfl, _⟩ := h; rfl
      | slice e =>
        obtain ⟨es, x, rfl, _, h⟩ := h
        simp only [Bool.and_eq_true, List.contains_iff_mem] at hpl
        simp only [AV.frees, AV.free, Bool.and_true]
        refine frees_mem fun a ha => ?_
        have := h a ha
        split at this
        · obtain ⟨ds, rfl, h1⟩ := this
          exact ty_frees hp n hpl.1.1 h1
        · have h2 := ty_frees hp n hpl.1.1 this
          simpa [AV.frees] using h2
      | struct fs =>
        simp only [Bool.and_eq_true, List.all_eq_true, List.contains_iff_mem, beq_iff_eq] at hpl
        obtain ⟨hl, h⟩ := h
        have := contig_free (cs := cs) hpl.2 (fun f hf => by
          obtain ⟨i, hi⟩ := List.getElem?_of_mem hf
          exact ty_frees hp n (hpl.1 f hf) (h i f (by simpa using hi)))
        rw [Nat.sub_zero, List.drop_zero, ← hl, List.take_length] at this
        exact this.2
      | array m e =>
        simp only [Bool.and_eq_true, List.contains_iff_mem, beq_iff_eq] at hpl
        obtain ⟨hl, h⟩ := h
        have := rows_free (cs := cs) (n := m) (w := P.cellsOf e) (fun i hi => ty_frees hp n hpl.1 (h i hi))
        rw [← hpl.2, ← hl, List.take_length] at this
        exact this
      | _ => exact h.elim
theorem range_getD {α : Type} (d : α) (xs : List α) : xs = (List.range xs.length).map fun i => xs.getD i d := by
  apply List.ext_getElem (by simp)
  intro i h1 h2
  simp [List.getD, h1]
theorem all_map {α β : Type} {g : α → β} : ∀ {cs : List β}, (∀ a ∈ cs, ∃ m, a = g m) → ∃ ms : List α, cs = ms.map g
  | [], _ => ⟨[], rfl⟩
  | a :: cs, h => by
    obtain ⟨m, rfl⟩ := h a (by simp)
    obtain ⟨ms, rfl⟩ := all_map (cs := cs) (g := g) (fun b hb => h b (List.mem_cons_of_mem _ hb))
    exact ⟨m :: ms, rfl⟩
theorem slots {cs : List AV} {n : Nat} {Q : AV → Prop} (hl : cs.length = n) (h : ∀ i < n, ∃ a, (cs.drop i).take 1 = [a] ∧ Q a) : ∀ a ∈ cs, Q a := by
  intro a ha
  obtain ⟨i, hi, rfl⟩ := List.getElem_of_mem ha
  obtain ⟨b, hb, hq⟩ := h i (by omega)
  rw [List.drop_eq_getElem_cons hi] at hb
  simp only [List.take_succ_cons, List.take_zero, List.cons.injEq, and_true] at hb
  rw [hb]; exact hq
theorem cut4 {α : Type} {cs : List α} {a b c d : Nat} (h : cs.length = a + (b + (c + d))) : cs = cs.take a ++ ((cs.drop a).take b ++ ((cs.drop (a + b)).take c ++ (cs.drop (a + b + c)).take d)) := by
  have h1 : (cs.drop (a + b + c)).take d = (cs.drop (a + b)).drop c := by rw [List.drop_drop, List.take_of_length_le (by rw [List.length_drop]; omega)]
  rw [h1, List.take_append_drop, show cs.drop (a + b) = (cs.drop a).drop b by rw [List.drop_drop], List.take_append_drop, List.take_append_drop]
theorem list9 {α : Type} : ∀ {cs : List α}, cs.length = 9 → ∃ b0 b1 b2 b3 b4 b5 b6 b7 b8, cs = [b0, b1, b2, b3, b4, b5, b6, b7, b8]
  | [b0, b1, b2, b3, b4, b5, b6, b7, b8], _ => ⟨_, _, _, _, _, _, _, _, _, rfl⟩
theorem tyc_int {n : Nat} {t : TypeId} {k : IntKind} {cs : List AV} (hu : P.underlying t = some (.int k)) (h : TyC P n t cs) : ∃ m, cs = [.int k m] := by
  cases n with
  | zero => exact h.elim
  | succ n => unfold TyC at h; rw [hu] at h; obtain ⟨m, h, _⟩ := h; exact ⟨m, h⟩
theorem tyc_slice {n : Nat} {t e : TypeId} {cs : List AV} (hu : P.underlying t = some (.slice e)) (h : TyC P n t cs) : ∃ (m : Nat) (es : List AV) (x : Bool), cs = [.list es x] ∧ ∀ a ∈ es, if aggB P e = true then ∃ ds, a = .agg ds ∧ TyC P m e ds else TyC P m e [a] := by
  cases n with
  | zero => exact h.elim
  | succ n => unfold TyC at h; rw [hu] at h; obtain ⟨es, x, h, _, h2⟩ := h; exact ⟨n, es, x, h, h2⟩
theorem tyc_slice_f {n : Nat} {t e : TypeId} {cs : List AV} (hu : P.underlying t = some (.slice e)) (he : aggB P e = false) (h : TyC P n t cs) : ∃ (m : Nat) (es : List AV) (x : Bool), cs = [.list es x] ∧ ∀ a ∈ es, TyC P m e [a] := by
  obtain ⟨m, es, x, h1, h2⟩ := tyc_slice hu h
  exact ⟨m, es, x, h1, fun a ha => by have := h2 a ha; rw [he] at this; simpa using this⟩
theorem tyc_slice_t {n : Nat} {t e : TypeId} {cs : List AV} (hu : P.underlying t = some (.slice e)) (he : aggB P e = true) (h : TyC P n t cs) : ∃ (m : Nat) (es : List AV) (x : Bool), cs = [.list es x] ∧ ∀ a ∈ es, ∃ ds, a = .agg ds ∧ TyC P m e ds := by
  obtain ⟨m, es, x, h1, h2⟩ := tyc_slice hu h
  exact ⟨m, es, x, h1, fun a ha => by have := h2 a ha; rw [he] at this; simpa using this⟩
theorem tyc_array {n : Nat} {t e : TypeId} {w : Nat} {cs : List AV} (hu : P.underlying t = some (.array w e)) (h : TyC P n t cs) : ∃ m : Nat, cs.length = P.cellsOf t ∧ ∀ i < w, TyC P m e ((cs.drop (i * P.cellsOf e)).take (P.cellsOf e)) := by
  cases n with
  | zero => exact h.elim
  | succ n => unfold TyC at h; rw [hu] at h; exact ⟨n, h⟩
theorem tyc_struct {n : Nat} {t : TypeId} {fs : Array Field} {cs : List AV} (hu : P.underlying t = some (.struct fs)) (h : TyC P n t cs) : ∃ m : Nat, cs.length = P.cellsOf t ∧ ∀ (i : Nat) f, fs[i]? = some f → TyC P m f.type ((cs.drop f.offset).take (P.cellsOf f.type)) := by
  cases n with
  | zero => exact h.elim
  | succ n => unfold TyC at h; rw [hu] at h; exact ⟨n, h⟩
theorem tyv_agg {t : TypeId} {a : AV} (ha : aggB P t = true) (h : TyV P t a) : ∃ (n : Nat) (cs : List AV), a = .agg cs ∧ TyC P n t cs := by
  obtain ⟨n, h⟩ := h
  rw [if_pos ha] at h
  obtain ⟨cs, h1, h2⟩ := h
  exact ⟨n, cs, h1, h2⟩
end Go.Abs
namespace Go.Abs
variable {P : Program} {cfg : Cfg} {fn lo : Nat}
theorem all_map_cells {α : Type} {g : α → AV} (h : ∀ x, (g x).cells = [g x]) : ∀ xs : List α, (xs.map g).all (fun e => e.cells.length == 1) = true
  | [] => rfl
  | x :: xs => by simp only [List.map_cons, List.all_cons, h, List.length_singleton, beq_self_eq_true, Bool.true_and, all_map_cells h xs]
theorem all_map_cell {α : Type} {g : α → AV} (h : ∀ x, (g x).cells = [g x]) (hc : ∀ x, (g x).isCell = true) : ∀ xs : List α, (xs.map g).all (fun e => e.cells.length == 1 && e.cells.all AV.isCell) = true
  | [] => rfl
  | x :: xs => by simp only [List.map_cons, List.all_cons, List.all_nil, h, hc, List.length_singleton, beq_self_eq_true, Bool.true_and, Bool.and_self, all_map_cell h hc xs]
theorem clone_op {α : Type} {g : α → AV} (hc1 : ∀ x, (g x).cells = [g x]) (hc2 : ∀ x, (g x).isCell = true) {c : Caller} {caller lo' f : Nat} {fr : List AV} {σ : Sto} {o : Op} {cl : Call} {elem by_ : Nat} {xs : List α} {ex : Bool} (ho : o = .call cl) (hcal : cl.callee = .value (.func f)) (hcl : cfg.clone f = some elem)
    (hsz : szOf P elem = some 1) (hby : byOf P elem = some by_) (ha : evsA cfg fr cl.args.toList = some [.list (xs.map g) ex]) (hne : 0 < xs.length) (hb : (xs.length + 256) * by_ ≤ 2 ^ 46) {S : Sto} (hS : σ ++ [.rows (xs.map g) 0 1 false] = S) {b : Nat} (hbb : σ.length = b) :
    opA P cfg c caller lo' fr σ o = some (.sl b 0 0 xs.length, S) := by
  subst ho hS hbb
  have e : (xs.map g).isEmpty = false := by cases xs with
    | nil => simp at hne
    | cons => rfl
  simp only [opA, callA, ha, hcal, evA, enterA, hcl, List.nil_append, List.append_nil, cloneA, hsz, hby, elemsA, all_map_cells hc1, if_true, e, Bool.false_eq_true, if_false, all_map_cell hc1 hc2, List.length_map]
  rw [if_pos ⟨by omega, trivial, hb⟩]
theorem ap_list {α : Type} {g : α → AV} (hc1 : ∀ x, (g x).cells = [g x]) (hc2 : ∀ x, (g x).isCell = true) {c : Caller} {caller lo' : Nat} {fr : List AV} {σ : Sto} {o : Op} {cl : Call} {sT xT elem : TypeId} {by_ : Nat} {z : AV} {xs : List α} {ex : Bool} (ho : o = .call cl) (hc : cl.callee = .builtin .append) (hts : cl.argTypes[0]? = some sT) (htx : cl.argTypes[1]? = some xT)
    (hus : P.underlying sT = some (.slice elem)) (hux : P.underlying xT = some (.slice elem)) (hsz : szOf P elem = some 1) (hby : byOf P elem = some by_) (hz : zeroA P elem = some z) (hzl : z.cells.length = 1) (hb0 : 0 < by_)
    (ha : evsA cfg fr cl.args.toList = some [.list [] true, .list (xs.map g) ex]) (hne : 0 < xs.length) (hbd : (0 + xs.length + 256) * by_ ≤ 2 ^ 46) {S : Sto} (hS : σ ++ [.rows (xs.map g) 0 1 false] = S) {b : Nat} (hbb : σ.length = b) :
    opA P cfg c caller lo' fr σ o = some (.sl b 0 0 (0 + xs.length), S) := by
  subst ho hS hbb
  have e : (xs.map g).isEmpty = false := by cases xs with
    | nil => simp at hne
    | cons => rfl
  simp only [opA, callA, ha, hc, appendA, hts, htx, hus, hux, hsz, hby, hz, elemsA, hzl, hb0, and_self, if_true, Nat.zero_lt_one, all_map_cells hc1, all_map_cell hc1 hc2, e, Bool.false_eq_true, if_false, List.all_nil, List.length_nil, List.length_map, hbd, List.nil_append]
theorem DK.inl {kk : Nat} {ops : Array Oper} {fr : List AV} {σ : Sto} {Q : List AV → Sto → Prop} {o : Oper} {rest : List Oper} {cl : Call} {g : Nat} {first cap args : List AV} {f : Operand} {fnn : Func} {b : Code} (l0 : Nat) (hlo : (if classA cfg fn o.op = 2 then lo else σ.length) = l0) (ho : o.op = .call cl) (hw : wantedA ops fr o = some true) (hcal : cl.callee = .value f) (hf : evA cfg fr f = some (.func (.func g) first cap))
    (ha : evsA cfg fr cl.args.toList = some args) (h1 : cfg.clone g = none) (h2 : cfg.ext g = none) (h3 : cfg.mode fn g = .inline) (hfn : P.funcs[g]? = some fnn) (hb : fnn.body = some b)
    (h : X P cfg kk g l0 b ((first ++ args ++ cap) ++ List.replicate (fnn.ntmps - (first ++ args ++ cap).length) undefA) σ (fun x fr' σ' => x.leaves = true ∧ ∃ vs, resultsA P σ' fr' fnn.results.toList = some vs ∧ DK P cfg (callW P (exec P cfg kk)) fn lo ops rest (putA fr o.dst (tupleA vs)) σ' Q)) : DK P cfg (callW P (exec P cfg kk)) fn lo ops (o :: rest) fr σ Q := by
  obtain ⟨x, fr', σ', e, hx, vs, hv, hk⟩ := h
  refine DK.op hw ?_ hk
  rw [hlo, ho]
  simp only [opA, callA, ha, hcal, hf, enterA, h1, h2, h3]
  unfold callW
  simp only [hfn, hb, e]
  cases x with
  | exit id => cases hx
  | normal => simp only [finA, hv, Option.map_some]
  | ret => simp only [finA, hv, Option.map_some]
end Go.Abs
namespace Go.Abs
variable {P : Program} {cfg : Cfg} {fn lo : Nat}
def SlOk (y sz : Nat) (es : List AV) (v : AV) (S : Blk) : Prop :=
  (es = [] ∧ v = .list [] true ∧ ∃ es0 g0 sz0, S = .rows es0 g0 sz0 false ∧ AV.frees es0 = true) ∨ (es ≠ [] ∧ AV.frees es = true ∧ ∃ g, v = .sl y g 0 es.length ∧ S = .rows es g sz false)
theorem SlOk.row {y sz : Nat} {es : List AV} {v : AV} {S : Blk} (h : SlOk y sz es v S) : ∃ es0 g0 sz0, S = .rows es0 g0 sz0 false ∧ AV.frees es0 = true := by
  rcases h with ⟨_, _, h⟩ | ⟨_, hf, g, _, h⟩
  · exact h
  · exact ⟨es, g, sz, h, hf⟩
def SlAt (σ : Sto) (i sz : Nat) (es : List AV) (v : AV) : Prop :=
  (es = [] ∧ v = .list [] true ∧ rowOk σ i = true) ∨ (es ≠ [] ∧ AV.frees es = true ∧ ∃ b g, (b = i ∨ 3 ≤ b) ∧ v = .sl b g 0 es.length ∧ σ[b]? = some (.rows es g sz false))
theorem SlOk.at {σ : Sto} {i sz : Nat} {es : List AV} {v : AV} {S : Blk} (h : SlOk i sz es v S) (hσ : σ[i]? = some S) : SlAt σ i sz es v := by
  rcases h with ⟨h1, h2, es0, g0, sz0, h3, h4⟩ | ⟨h1, hf, g, h2, h3⟩
  · exact .inl ⟨h1, h2, by rw [rowOk, hσ, h3]; exact h4⟩
  · exact .inr ⟨h1, hf, i, g, .inl rfl, h2, by rw [hσ, h3]⟩
theorem SlAt.out {σ : Sto} {i sz G : Nat} {es : List AV} {v : AV} (h : SlAt σ i sz es v) : outOk σ i v = true ∧ SlOk i sz es (outCell i G v) (outBlk σ (outIx i v) G) := by
  rcases h with ⟨h1, h2, h3⟩ | ⟨h1, hf, b, g, hb, h2, h3⟩
  · subst h1 h2
    refine ⟨by simp [outOk, AV.free, AV.frees, h3], .inl ⟨rfl, rfl, ?_⟩⟩
    unfold rowOk at h3
    split at h3
    · rename_i es0 g0 sz0 hσ
      exact ⟨es0, G, sz0, by simp [outBlk, outIx, hσ], h3⟩
    · cases h3
  · subst h2
    refine ⟨?_, .inr ⟨h1, hf, G, rfl, by simp [outBlk, outIx, h3]⟩⟩
    simp only [outOk, rowOk, rowGen, h3, hf, beq_self_eq_true, Bool.and_true, Bool.or_eq_true, beq_iff_eq, decide_eq_true_eq]
    exact hb
def lentCore (call : Caller) (f : Nat) (args0 : List AV) (g1 g2 : Nat) (σ : Sto) : Option (AV × Sto) :=
  match call f args0 0 σ with
  | some (r, σ1) => match snap 0 6 σ1 r with
    | some (r', σ2) => if r'.free = true then (match lentOut g1 g2 σ2 with | some σ3 => some (r', σ3) | none => none) else none
    | none => none
  | none => none
def LSpec (call : Caller) (f : Nat) (args0 pre es ps post : List AV) (r : AV) (pre' es' ps' post' : List AV) : Prop :=
  ∀ ev pd S1 S2 g1 g2, SlOk 1 6 es ev S1 → SlOk 2 3 ps pd S2 → ∃ ev' pd' S1' S2', SlOk 1 6 es' ev' S1' ∧ SlOk 2 3 ps' pd' S2' ∧ lentCore call f args0 g1 g2 [.box (pre ++ ev :: pd :: post) false, S1, S2] = some (r, [.box (pre' ++ ev' :: pd' :: post') false, S1', S2'])
theorem lentCore_le {c d : Caller} {f : Nat} (h : ∀ args lo σ x, c f args lo σ = some x → d f args lo σ = some x) {args0 : List AV} {g1 g2 : Nat} {σ : Sto} {x : AV × Sto} (e : lentCore c f args0 g1 g2 σ = some x) : lentCore d f args0 g1 g2 σ = some x := by
  unfold lentCore at e ⊢
  cases hc : c f args0 0 σ with
  | none => rw [hc] at e; cases e
  | some q => rw [h _ _ _ _ hc]; rw [hc] at e; exact e
theorem LSpec.le {k k' : Nat} (hk : k ≤ k') {f : Nat} {args0 pre es ps post : List AV} {r : AV} {pre' es' ps' post' : List AV} (h : LSpec (callW P (exec P cfg k)) f args0 pre es ps post r pre' es' ps' post') : LSpec (callW P (exec P cfg k')) f args0 pre es ps post r pre' es' ps' post' := by
  intro ev pd S1 S2 g1 g2 h1 h2
  obtain ⟨ev', pd', S1', S2', h3, h4, h5⟩ := h ev pd S1 S2 g1 g2 h1 h2
  exact ⟨ev', pd', S1', S2', h3, h4, lentCore_le (call_le hk f) h5⟩
inductive LArgs (b : Nat) : List AV → List AV → Prop
  | ptr {rest : List AV} (h : AV.frees rest = true) : LArgs b (.ptr b 0 :: rest) (.ptr 0 0 :: rest)
  | doer {cs rest : List AV} (h1 : AV.frees cs = true) (h : AV.frees rest = true) : LArgs b (.agg (.ptr b 0 :: cs) :: rest) (.agg (.ptr 0 0 :: cs) :: rest)
theorem LArgs.go {b : Nat} {args args0 : List AV} (h : LArgs b args args0) {sl : Nat → Nat × Nat} {call : Caller} {f lo : Nat} {σ : Sto} : lentA sl call f lo σ args = lentGo call f lo σ b (sl b).1 (sl b).2 args0 := by
  cases h with
  | ptr h => simp only [lentA]; rw [if_pos h]
  | doer h1 h => simp only [lentA]; rw [if_pos ⟨h1, h⟩]
theorem backRows_free {σ1 : Sto} {bs : List Nat} {n : Nat} {rest : List AV} : ∀ {pre : List AV} {ns : List Nat}, AV.frees pre = true → backRows σ1 bs n (pre ++ rest) ns = (match backRows σ1 bs n rest ns with | some (cs', ns') => some (pre ++ cs', ns') | none => none)
  | [], ns, _ => by simp only [List.nil_append]; split <;> simp_all
  | c :: pre, ns, h => by
    simp only [AV.frees, Bool.and_eq_true] at h
    simp only [List.cons_append]
    rw [backRows]
    · rw [if_pos h.1, backRows_free h.2]
      cases backRows σ1 bs n rest ns <;> rfl
    · intro b g off len e; subst e; simp [AV.free] at h
theorem drop38 {pre rest : List AV} (h : pre.length = 38) : (pre ++ rest).drop 38 = rest := by rw [← h, List.drop_left]
theorem take38 {pre rest : List AV} (h : pre.length = 38) : (pre ++ rest).take 38 = pre := by rw [← h, List.take_left]
theorem SlOk.inside {y i sz : Nat} {es : List AV} {v : AV} {S : Blk} (h : SlOk y sz es v S) : ∃ v', inCell y i v = some v' ∧ SlOk i sz es v' S := by
  rcases h with ⟨h1, h2, h3⟩ | ⟨h1, hf, g, h2, h3⟩
  · subst h2; exact ⟨.list [] true, by simp [inCell, AV.free, AV.frees], .inl ⟨h1, rfl, h3⟩⟩
  · subst h2; exact ⟨.sl i g 0 es.length, by simp [inCell], .inr ⟨h1, hf, g, rfl, h3⟩⟩
theorem SlOk.back {y i sz : Nat} {es : List AV} {v : AV} {S : Blk} (h : SlOk (i + 1) sz es v S) {σ3 : Sto} {bs : List Nat} (hb : bs[i]? = some y) {n : Nat} {rest : List AV} {ns : List Nat} :
    ∃ v', SlOk y sz es v' S ∧ backRows σ3 bs n (v :: rest) ns = (match backRows σ3 bs n rest ns with | some (cs', ns') => some (v' :: cs', ns') | none => none) := by
  rcases h with ⟨h1, h2, h3⟩ | ⟨h1, hf, g, h2, h3⟩
  · subst h2
    refine ⟨.list [] true, .inl ⟨h1, rfl, h3⟩, ?_⟩
    rw [backRows]
    · rw [if_pos (show (AV.list [] true).free = true from rfl)]
      cases backRows σ3 bs n rest ns <;> rfl
    · intro b g off len h; cases h
  · subst h2
    refine ⟨.sl y g 0 es.length, .inr ⟨h1, hf, g, rfl, h3⟩, ?_⟩
    rw [backRows]
    simp only [Nat.add_eq_zero_iff, Nat.one_ne_zero, and_false, if_false, Nat.add_sub_cancel, hb]
    cases backRows σ3 bs n rest ns <;> rfl
theorem lentGo_spec {call : Caller} {f b y1 y2 : Nat} {σ : Sto} {args0 pre es ps post : List AV} {r : AV} {pre' es' ps' post' : List AV} {ev pd : AV} {S1 S2 : Blk} (hσ : σ[b]? = some (.box (pre ++ ev :: pd :: post) false)) (hl : lo ≤ b ∧ lo ≤ y1 ∧ lo ≤ y2 ∧ y1 ≠ y2) (h1 : σ[y1]? = some S1) (h2 : σ[y2]? = some S2)
    (hE : SlOk y1 6 es ev S1) (hP : SlOk y2 3 ps pd S2) (hlen : pre.length = 38) (hf1 : AV.frees pre = true) (hf2 : AV.frees post = true) (hf3 : AV.frees pre' = true) (hf4 : AV.frees post' = true) (h : LSpec call f args0 pre es ps post r pre' es' ps' post') :
    ∃ ev' pd' S1' S2', SlOk y1 6 es' ev' S1' ∧ SlOk y2 3 ps' pd' S2' ∧ lentGo call f lo σ b y1 y2 args0 = some (r, ((σ.set b (.box (pre' ++ ev' :: pd' :: post') false)).set y1 S1').set y2 S2') := by
  obtain ⟨ev0, e1, hE0⟩ := hE.inside (i := 1)
  obtain ⟨pd0, e2, hP0⟩ := hP.inside (i := 2)
  obtain ⟨ev1, pd1, S1', S2', hE1, hP1, hc⟩ := h ev0 pd0 S1 S2 (rowGen σ y1) (rowGen σ y2) hE0 hP0
  have hin : lentIn (pre ++ ev :: pd :: post) y1 y2 = some (pre ++ ev0 :: pd0 :: post) := by
    unfold lentIn
    rw [drop38 hlen, take38 hlen]
    simp only [hf1, hf2, and_self, if_true, e1, e2]
  have hok : ∀ {y : Nat} {S : Blk}, σ[y]? = some S → (∃ es0 g0 sz0, S = .rows es0 g0 sz0 false ∧ AV.frees es0 = true) → rowOk σ y = true := fun {y S} hs ⟨es0, g0, sz0, h3, h4⟩ => by rw [rowOk, hs, h3]; exact h4
  have hb1 : blkAt σ y1 = S1 := by simp [blkAt, h1]
  have hb2 : blkAt σ y2 = S2 := by simp [blkAt, h2]
  have hcond : lo ≤ b ∧ lo ≤ y1 ∧ lo ≤ y2 ∧ y1 ≠ y2 ∧ rowOk σ y1 = true ∧ rowOk σ y2 = true := ⟨hl.1, hl.2.1, hl.2.2.1, hl.2.2.2, hok h1 hE.row, hok h2 hP.row⟩
  unfold lentCore at hc
  cases hcall : call f args0 0 [.box (pre ++ ev0 :: pd0 :: post) false, S1, S2] with
  | none => rw [hcall] at hc; cases hc
  | some q =>
    obtain ⟨r0, σ1⟩ := q
    rw [hcall] at hc
    simp only at hc
    cases hsn : snap 0 6 σ1 r0 with
    | none => rw [hsn] at hc; cases hc
    | some q2 =>
      obtain ⟨r', σ2⟩ := q2
      rw [hsn] at hc
      simp only at hc
      by_cases hfr : r'.free = true
      · rw [if_pos hfr] at hc
        cases hout : lentOut (rowGen σ y1) (rowGen σ y2) σ2 with
        | none => rw [hout] at hc; cases hc
        | some σ3 =>
          rw [hout] at hc
          simp only [Option.some.injEq, Prod.mk.injEq] at hc
          obtain ⟨rfl, rfl⟩ := hc
          generalize hσ3 : ([.box (pre' ++ ev1 :: pd1 :: post') false, S1', S2'] : Sto) = σ3 at *
          obtain ⟨ev', hE', be⟩ := SlOk.back (i := 0) (y := y1) hE1 (σ3 := σ3) (bs := [y1, y2]) rfl (n := σ.length) (rest := pd1 :: post') (ns := [])
          obtain ⟨pd', hP', bp⟩ := SlOk.back (i := 1) (y := y2) hP1 (σ3 := σ3) (bs := [y1, y2]) rfl (n := σ.length) (rest := post') (ns := [])
          have hpost : backRows σ3 [y1, y2] σ.length post' [] = some (post', []) := by
            have := backRows_free (σ1 := σ3) (bs := [y1, y2]) (n := σ.length) (rest := []) (ns := []) hf4
            rw [List.append_nil] at this
            rw [this]; simp [backRows]
          have hbk : backRows σ3 [y1, y2] σ.length (pre' ++ ev1 :: pd1 :: post') [] = some (pre' ++ ev' :: pd' :: post', []) := by
            rw [backRows_free hf3, be, bp, hpost]
          refine ⟨ev', pd', S1', S2', hE', hP', ?_⟩
          have hhead : σ3.head? = some (.box (pre' ++ ev1 :: pd1 :: post') false) := by rw [← hσ3]; rfl
          have hput : putRows σ3 [y1, y2] 1 (σ.set b (.box (pre' ++ ev' :: pd' :: post') false)) = some (((σ.set b (.box (pre' ++ ev' :: pd' :: post') false)).set y1 S1').set y2 S2') := by
            obtain ⟨a1, a2, a3, a4, a5⟩ := hE1.row
            obtain ⟨c1, c2, c3, c4, c5⟩ := hP1.row
            have g1 : σ3[1]? = some S1' := by rw [← hσ3]; rfl
            have g2 : σ3[2]? = some S2' := by rw [← hσ3]; rfl
            simp only [putRows, g1, g2, a4, c4, a5, c5, if_true]
          unfold lentGo
          simp only [hσ]
          rw [if_pos hcond]
          simp only [hin, List.map_cons, List.map_nil, hb1, hb2, hcall, hsn, hfr, if_true, hout, hhead, hbk, hput, List.append_nil]
      · rw [if_neg hfr] at hc; cases hc
section
variable {c : Caller} {ops : Array Oper} {fr : List AV} {σ σ1 : Sto} {Q : List AV → Sto → Prop} {o : Oper} {rest : List Oper}
theorem lent_op {l0 : Nat} {cl : Call} {g : Nat} {first cap args args' args0 : List AV} {f : Operand} {r : AV} {b y1 y2 : Nat} {pre es ps post pre' es' ps' post' : List AV} {ev pd : AV} {S1 S2 : Blk} {Sf : AV → AV → Blk → Blk → Sto}
    (ho : o.op = .call cl) (hcal : cl.callee = .value f) (hf : evA cfg fr f = some (.func (.func g) first cap)) (ha : evsA cfg fr cl.args.toList = some args) (h1 : cfg.clone g = none) (h2 : cfg.ext g = none) (h3 : cfg.mode fn g = .lent) (hs : snapsW (snap l0 6) σ (first ++ args ++ cap) = some (args', σ)) (hla : LArgs b args' args0) (hsl : cfg.slots fn b = (y1, y2))
    (hσ : σ[b]? = some (.box (pre ++ ev :: pd :: post) false)) (hl : l0 ≤ b ∧ l0 ≤ y1 ∧ l0 ≤ y2 ∧ y1 ≠ y2) (hy1 : σ[y1]? = some S1) (hy2 : σ[y2]? = some S2) (hE : SlOk y1 6 es ev S1) (hP : SlOk y2 3 ps pd S2) (hlen : pre.length = 38) (hf1 : AV.frees pre = true) (hf2 : AV.frees post = true) (hf3 : AV.frees pre' = true) (hf4 : AV.frees post' = true)
    (hspec : LSpec c g args0 pre es ps post r pre' es' ps' post') (hS : ∀ e p A B, ((σ.set b (.box (pre' ++ e :: p :: post') false)).set y1 A).set y2 B = Sf e p A B) :
    ∃ ev' pd' S1' S2', SlOk y1 6 es' ev' S1' ∧ SlOk y2 3 ps' pd' S2' ∧ opA P cfg c fn l0 fr σ o.op = some (r, Sf ev' pd' S1' S2') := by
  obtain ⟨ev', pd', S1', S2', hE', hP', hg⟩ := lentGo_spec (lo := l0) (call := c) (f := g) (args0 := args0) hσ hl hy1 hy2 hE hP hlen hf1 hf2 hf3 hf4 hspec
  refine ⟨ev', pd', S1', S2', hE', hP', ?_⟩
  rw [ho, ← hS]
  simp only [opA, callA, ha, hcal, hf, enterA, h1, h2, h3, hs, hla.go, hsl, hg]
theorem OK.lent {cl : Call} {g : Nat} {first cap args args' args0 : List AV} {f : Operand} (b y1 y2 : Nat) (pre es ps post : List AV) (r : AV) (pre' es' ps' post' : List AV) (Sf : AV → AV → Blk → Blk → Sto) (F' : List AV) {ev pd : AV} {S1 S2 : Blk}
    (ho : o.op = .call cl) (hw : wantedA ops fr o = some true) (hcal : cl.callee = .value f) (hf : evA cfg fr f = some (.func (.func g) first cap)) (ha : evsA cfg fr cl.args.toList = some args) (h1 : cfg.clone g = none) (h2 : cfg.ext g = none) (h3 : cfg.mode fn g = .lent) (hs : snapsW (snap lo 6) σ (first ++ args ++ cap) = some (args', σ)) (hla : LArgs b args' args0) (hsl : cfg.slots fn b = (y1, y2))
    (hσ : σ[b]? = some (.box (pre ++ ev :: pd :: post) false)) (hl : lo ≤ b ∧ lo ≤ y1 ∧ lo ≤ y2 ∧ y1 ≠ y2) (hy1 : σ[y1]? = some S1) (hy2 : σ[y2]? = some S2) (hE : SlOk y1 6 es ev S1) (hP : SlOk y2 3 ps pd S2) (hlen : pre.length = 38) (hf1 : AV.frees pre = true) (hf2 : AV.frees post = true) (hf3 : AV.frees pre' = true) (hf4 : AV.frees post' = true)
    (hspec : LSpec c g args0 pre es ps post r pre' es' ps' post') (hS : ∀ e p A B, ((σ.set b (.box (pre' ++ e :: p :: post') false)).set y1 A).set y2 B = Sf e p A B) (hF : putA fr o.dst r = F')
    (k : ∀ ev' pd' S1' S2', SlOk y1 6 es' ev' S1' → SlOk y2 3 ps' pd' S2' → OK P cfg c fn lo ops rest F' (Sf ev' pd' S1' S2') Q) : OK P cfg c fn lo ops (o :: rest) fr σ Q := by
  obtain ⟨ev', pd', S1', S2', hE', hP', hg⟩ := lent_op (P := P) ho hcal hf ha h1 h2 h3 hs hla hsl hσ hl hy1 hy2 hE hP hlen hf1 hf2 hf3 hf4 hspec hS
  subst hF
  exact OK.op hw hg (k ev' pd' S1' S2' hE' hP')
theorem DK.lent {cl : Call} {g : Nat} {first cap args args' args0 : List AV} {f : Operand} (l0 : Nat) (hl0 : (if classA cfg fn o.op = 2 then lo else σ.length) = l0) (b y1 y2 : Nat) (pre es ps post : List AV) (r : AV) (pre' es' ps' post' : List AV) (Sf : AV → AV → Blk → Blk → Sto) (F' : List AV) {ev pd : AV} {S1 S2 : Blk}
    (ho : o.op = .call cl) (hw : wantedA ops fr o = some true) (hcal : cl.callee = .value f) (hf : evA cfg fr f = some (.func (.func g) first cap)) (ha : evsA cfg fr cl.args.toList = some args) (h1 : cfg.clone g = none) (h2 : cfg.ext g = none) (h3 : cfg.mode fn g = .lent) (hs : snapsW (snap l0 6) σ (first ++ args ++ cap) = some (args', σ)) (hla : LArgs b args' args0) (hsl : cfg.slots fn b = (y1, y2))
    (hσ : σ[b]? = some (.box (pre ++ ev :: pd :: post) false)) (hl : l0 ≤ b ∧ l0 ≤ y1 ∧ l0 ≤ y2 ∧ y1 ≠ y2) (hy1 : σ[y1]? = some S1) (hy2 : σ[y2]? = some S2) (hE : SlOk y1 6 es ev S1) (hP : SlOk y2 3 ps pd S2) (hlen : pre.length = 38) (hf1 : AV.frees pre = true) (hf2 : AV.frees post = true) (hf3 : AV.frees pre' = true) (hf4 : AV.frees post' = true)
    (hspec : LSpec c g args0 pre es ps post r pre' es' ps' post') (hS : ∀ e p A B, ((σ.set b (.box (pre' ++ e :: p :: post') false)).set y1 A).set y2 B = Sf e p A B) (hF : putA fr o.dst r = F')
    (k : ∀ ev' pd' S1' S2', SlOk y1 6 es' ev' S1' → SlOk y2 3 ps' pd' S2' → DK P cfg c fn lo ops rest F' (Sf ev' pd' S1' S2') Q) : DK P cfg c fn lo ops (o :: rest) fr σ Q := by
  obtain ⟨ev', pd', S1', S2', hE', hP', hg⟩ := lent_op (P := P) ho hcal hf ha h1 h2 h3 hs hla hsl hσ hl hy1 hy2 hE hP hlen hf1 hf2 hf3 hf4 hspec hS
  subst hF
  exact DK.op hw (by rw [hl0]; exact hg) (k ev' pd' S1' S2' hE' hP')
end
def LEnds (P : Program) (rs : Array ResultVar) (fr : List AV) (σ : Sto) (r : AV) (pre' es' ps' post' : List AV) : Prop :=
  ∃ vs σ2 pre0 ev pd post0 σ3 σ4 cs, resultsA P σ fr rs.toList = some vs ∧ snap 0 6 σ (tupleA vs) = some (r, σ2) ∧ r.free = true ∧ σ2[0]? = some (.box (pre0 ++ ev :: pd :: post0) false) ∧ pre0.length = 38 ∧ snapsW (snap 0 6) σ2 pre0 = some (pre', σ3) ∧ snapsW (snap 0 6) σ3 post0 = some (post', σ4) ∧
    σ4[0]? = some (.box cs false) ∧ AV.frees pre' = true ∧ AV.frees post' = true ∧ SlAt σ4 1 6 es' ev ∧ SlAt σ4 2 3 ps' pd ∧ outIx 1 ev ≠ outIx 2 pd
theorem SlAt.ne {σ : Sto} {es ps : List AV} {ev pd : AV} (h1 : SlAt σ 1 6 es ev) (h2 : SlAt σ 2 3 ps pd) : outIx 1 ev ≠ outIx 2 pd := by
  rcases h1 with ⟨_, rfl, _⟩ | ⟨_, _, b, g, hb, rfl, e⟩ <;> rcases h2 with ⟨_, rfl, _⟩ | ⟨_, _, b', g', hb', rfl, e'⟩ <;> simp only [outIx] <;> try omega
  intro h
  subst h
  rw [e] at e'
  cases e'
theorem lspec_of {k f : Nat} {fnn : Func} {b : Code} {args0 pre es ps post : List AV} {r : AV} {pre' es' ps' post' : List AV} (hf : P.funcs[f]? = some fnn) (hb : fnn.body = some b)
    (h : ∀ ev pd S1 S2, SlOk 1 6 es ev S1 → SlOk 2 3 ps pd S2 → X P cfg k f 0 b (args0 ++ List.replicate (fnn.ntmps - args0.length) undefA) [.box (pre ++ ev :: pd :: post) false, S1, S2] (fun x fr' σ' => x.leaves = true ∧ LEnds P fnn.results fr' σ' r pre' es' ps' post')) :
    LSpec (callW P (exec P cfg k)) f args0 pre es ps post r pre' es' ps' post' := by
  intro ev pd S1 S2 g1 g2 hE hP
  obtain ⟨x, fr', σ', e, hx, vs, σ2, pre0, ev0, pd0, post0, σ3, σ4, cs, q1, q2, q3, q4, q5, q6, q7, q8, q9, q10, q11, q12, q13⟩ := h ev pd S1 S2 hE hP
  refine ⟨outCell 1 (g1 + rowGen σ4 (outIx 1 ev0) + 1) ev0, outCell 2 (g2 + rowGen σ4 (outIx 2 pd0) + 1) pd0, outBlk σ4 (outIx 1 ev0) (g1 + rowGen σ4 (outIx 1 ev0) + 1), outBlk σ4 (outIx 2 pd0) (g2 + rowGen σ4 (outIx 2 pd0) + 1), q11.out.2, q12.out.2, ?_⟩
  have hcall : callW P (exec P cfg k) f args0 0 [.box (pre ++ ev :: pd :: post) false, S1, S2] = some (tupleA vs, σ') := by
    unfold callW
    simp only [hf, hb, e]
    cases x with
    | exit id => cases hx
    | normal => simp only [finA, q1, Option.map_some]
    | ret => simp only [finA, q1, Option.map_some]
  unfold lentCore
  simp only [hcall, q2, q3, if_true]
  have : lentOut g1 g2 σ2 = some [.box (pre' ++ outCell 1 (g1 + rowGen σ4 (outIx 1 ev0) + 1) ev0 :: outCell 2 (g2 + rowGen σ4 (outIx 2 pd0) + 1) pd0 :: post') false, outBlk σ4 (outIx 1 ev0) (g1 + rowGen σ4 (outIx 1 ev0) + 1), outBlk σ4 (outIx 2 pd0) (g2 + rowGen σ4 (outIx 2 pd0) + 1)] := by
    unfold lentOut
    simp only [List.head?_eq_getElem?, q4, drop38 q5, take38 q5, q6, q7, q8]
    rw [if_pos ⟨q9, q10, (q11.out (G := 0)).1, (q12.out (G := 0)).1, q13⟩]
  simp only [this]
theorem lends {rs : Array ResultVar} {fr : List AV} {σ junk : Sto} {r : AV} {vs pre' es' ps' post' : List AV} {ev pd : AV} {S1 S2 : Blk} (h1 : resultsA P σ fr rs.toList = some vs) (hr : tupleA vs = r) (h2 : ∀ σ : Sto, snap 0 6 σ r = some (r, σ)) (h3 : r.free = true) (hσ : σ = .box (pre' ++ ev :: pd :: post') false :: S1 :: S2 :: junk) (hlen : pre'.length = 38)
    (h4 : ∀ σ : Sto, snapsW (snap 0 6) σ pre' = some (pre', σ)) (h5 : ∀ σ : Sto, snapsW (snap 0 6) σ post' = some (post', σ)) (h6 : AV.frees pre' = true) (h7 : AV.frees post' = true) (hE : SlOk 1 6 es' ev S1) (hP : SlOk 2 3 ps' pd S2) : LEnds P rs fr σ r pre' es' ps' post' := by
  subst hr
  have a1 : SlAt σ 1 6 es' ev := hE.at (by rw [hσ]; rfl)
  have a2 : SlAt σ 2 3 ps' pd := hP.at (by rw [hσ]; rfl)
  exact ⟨vs, σ, pre', ev, pd, post', σ, σ, _, h1, h2 σ, h3, by rw [hσ]; rfl, hlen, h4 σ, h5 σ, by rw [hσ]; rfl, h6, h7, a1, a2, a1.ne a2⟩
end Go.Abs
namespace Go.Abs
variable {P : Program} {cfg : Cfg} {fn lo : Nat}
theorem pureOf_bind {α β : Type} (s : Sem α) (f : α → Sem β) : pureOf P (s >>= f) = (pureOf P s).bind fun a => pureOf P (f a) := by
  show pureOf P (Sem.bind s f) = _
  induction s with
  | pure a => rfl
  | program k ih => simp only [Sem.bind, pureOf]; exact ih P
  | _ => rfl
theorem pureOf_pure {α : Type} (a : α) : pureOf P (pure a : Sem α) = some a := rfl
theorem pureOf_program : pureOf P program = some P := rfl
theorem pureOf_und (t : TypeId) : pureOf P (underlying t) = P.underlying t := by
  show pureOf P (Sem.program _) = _
  simp only [pureOf, Sem.bind]
  cases P.underlying t <;> rfl
def valI (ag : Bool) (xs : List Int) : Value := if ag then .agg (xs.map (Value.int .i64)).toArray else .int .i64 (xs.headD 0)
def EqFlat (P : Program) (d : Nat) (t : TypeId) (ag : Bool) (n : Nat) : Prop := ∀ xs ys : List Int, xs.length = n → ys.length = n → pureOf P (Op.equalIn d t (valI ag xs) (valI ag ys)) = some (decide (xs = ys))
theorem eqFlat_int {d : Nat} {t : TypeId} (hu : P.underlying t = some (.int .i64)) : EqFlat P (d + 1) t false 1 := by
  intro xs ys h1 h2
  obtain ⟨x, rfl⟩ := List.length_eq_one_iff.1 h1
  obtain ⟨y, rfl⟩ := List.length_eq_one_iff.1 h2
  simp only [valI, Op.equalIn, pureOf_bind, pureOf_und, hu, Option.bind_some, Bool.false_eq_true, if_false, List.headD_cons, if_true, pureOf_pure]
  simp only [List.cons.injEq, and_true, Option.some.injEq]
  rfl
theorem forIn_list {β : Type} (l : List Nat) (b : β) (f : Nat → β → Sem (ForInStep β)) : pureOf P (forIn l b f) = forIn (m := Option) l b fun i b => pureOf P (f i b) := by
  induction l generalizing b with
  | nil => rfl
  | cons i l ih =>
    simp only [List.forIn_cons, pureOf_bind]
    show Option.bind _ _ = Option.bind _ _
    congr 1
    funext s
    cases s with
    | done b => rfl
    | yield b => exact ih b
theorem pureOf_size {t : TypeId} {n : Nat} (h : szOf P t = some n) : pureOf P (sizeOf t) = some n := by
  unfold szOf at h
  unfold sizeOf
  rw [pureOf_bind]
  have e : pureOf P (typeInfo t) = P.info? t := by
    show pureOf P (Sem.program _) = _
    simp only [pureOf, Sem.bind]
    cases P.info? t <;> rfl
  rw [e]
  cases hi : P.info? t with
  | none => simp [hi] at h
  | some i => simp [hi] at h; subst h; rfl
theorem pureOf_agg {t : TypeId} {b : Bool} (h : isAggO P t = some b) : pureOf P (isAgg t) = some b := by
  unfold isAggO at h
  unfold isAgg
  rw [pureOf_bind, pureOf_und]
  cases hu : P.underlying t with
  | none => simp [hu] at h
  | some d =>
    simp only [hu, Option.map_some, Option.some.injEq] at h
    subst h
    cases d <;> rfl
theorem pureOf_part {e : TypeId} {ag : Bool} {m off : Nat} {xs : List Int} (hs : szOf P e = some m) (ha : isAggO P e = some ag) (h1 : ag = false → m = 1) (h : off + m ≤ xs.length) :
    pureOf P (part e (xs.map (Value.int .i64)).toArray off) = some (valI ag ((xs.drop off).take m)) := by
  unfold part
  rw [pureOf_bind, pureOf_agg ha]
  cases ag with
  | true =>
    simp only [Option.bind_some, if_true, pureOf_bind, pureOf_size hs, pureOf_pure, valI, Option.some.injEq, Value.agg.injEq]
    apply Array.ext'
    simp only [Array.toList_extract, List.extract_eq_take_drop, List.map_take, List.map_drop]
    rw [show off + m - off = m by omega]
  | false =>
    have hm := h1 rfl
    subst hm
    have hlt : off < xs.length := by omega
    simp only [Option.bind_some, Bool.false_eq_true, if_false, valI]
    have e1 : (xs.map (Value.int .i64)).toArray[off]? = some (.int .i64 xs[off]) := by simp [hlt]
    rw [e1]
    simp only [pureOf_pure, Option.some.injEq]
    rw [List.drop_eq_getElem_cons hlt]; rfl
theorem forIn_all (c : Nat → Bool) : ∀ (n s : Nat), (forIn (m := Option) (List.range' s n) ((none : Option Bool), ()) fun i _ => some (if c i = true then ForInStep.yield (none, ()) else ForInStep.done (some false, ()))) = some (if (List.range' s n).all c = true then (none, ()) else (some false, ()))
  | 0, s => rfl
  | n + 1, s => by
    rw [List.range'_succ, List.forIn_cons]
    cases hc : c s with
    | true =>
      simp only [if_true, List.all_cons, hc, Bool.true_and]
      exact forIn_all c n (s + 1)
    | false => simp [hc]
theorem chunks {m : Nat} : ∀ {len : Nat} {xs ys : List Int}, xs.length = len * m → ys.length = len * m → ((∀ i, i < len → (xs.drop (i * m)).take m = (ys.drop (i * m)).take m) ↔ xs = ys)
  | 0, xs, ys, h1, h2 => by
    rw [Nat.zero_mul] at h1 h2
    rw [List.length_eq_zero_iff.1 h1, List.length_eq_zero_iff.1 h2]
    simp
  | len + 1, xs, ys, h1, h2 => by
    rw [Nat.succ_mul] at h1 h2
    have ih := chunks (m := m) (len := len) (xs := xs.drop m) (ys := ys.drop m) (by simp; omega) (by simp; omega)
    constructor
    · intro h
      have h0 := h 0 (by omega)
      simp only [Nat.zero_mul, List.drop_zero] at h0
      have hr := ih.1 fun i hi => by
        have := h (i + 1) (by omega)
        rw [List.drop_drop, List.drop_drop, show m + i * m = (i + 1) * m by rw [Nat.succ_mul]; omega]
        exact this
      rw [← List.take_append_drop m xs, ← List.take_append_drop m ys, h0, hr]
    · rintro rfl _ _; rfl
theorem eqFlat_arr {d len : Nat} {t e : TypeId} {ag : Bool} {m : Nat} (hu : P.underlying t = some (.array len e)) (hs : szOf P e = some m) (ha : isAggO P e = some ag) (hm : ag = false → m = 1) (he : EqFlat P d e ag m) : EqFlat P (d + 1) t true (len * m) := by
  intro xs ys h1 h2
  simp only [valI, if_true, Op.equalIn, pureOf_bind, pureOf_und, hu, Option.bind_some, pureOf_size hs, Std.Legacy.Range.forIn_eq_forIn_range', forIn_list]
  have hb : ∀ i, i ∈ List.range' 0 [:len].size → (fun (i : Nat) (_ : Option Bool × Unit) => ((pureOf P (part e (List.map (Value.int IntKind.i64) xs).toArray (i * m))).bind fun a =>
            (pureOf P (part e (List.map (Value.int IntKind.i64) ys).toArray (i * m))).bind fun a_1 =>
              (pureOf P (Op.equalIn d e a a_1)).bind fun a =>
                pureOf P
                  (if (!a) = true then pure (ForInStep.done (some false, ()))
                  else (pure (ForInStep.yield ((none : Option Bool), ())) : Sem (ForInStep (Option Bool × Unit))))))
      i = fun _ => some (if decide ((xs.drop (i * m)).take m = (ys.drop (i * m)).take m) = true then ForInStep.yield (none, ()) else ForInStep.done (some false, ())) := by
    intro i hi
    have hi' : i < len := by
      have := List.mem_range'_1.1 hi
      simp [Std.Legacy.Range.size] at this
      omega
    have hb : i * m + m ≤ len * m := by rw [← Nat.succ_mul]; exact Nat.mul_le_mul_right m hi'
    funext _
    show ((pureOf P (part e (List.map (Value.int IntKind.i64) xs).toArray (i * m))).bind fun a => _) = _
    rw [pureOf_part hs ha hm (by omega), Option.bind_some, pureOf_part hs ha hm (by omega), Option.bind_some, he _ _ (by simp; omega) (by simp; omega), Option.bind_some]
    by_cases hq : (xs.drop (i * m)).take m = (ys.drop (i * m)).take m
    · simp only [hq, decide_true, Bool.not_true, Bool.false_eq_true, if_false, if_true, pureOf_pure]
    · simp only [hq, decide_false, Bool.not_false, if_true, Bool.false_eq_true, if_false, pureOf_pure]
  have hfor : ∀ (l : List Nat) (f g : Nat → Option Bool × Unit → Option (ForInStep (Option Bool × Unit))) (b : Option Bool × Unit), (∀ i, i ∈ l → f i = g i) → forIn l b f = forIn l b g := by
    intro l f g
    induction l with
    | nil => intro b _; rfl
    | cons i l ih =>
      intro b h
      simp only [List.forIn_cons, h i (by simp)]
      congr 1
      funext s
      cases s with
      | done b => rfl
      | yield b => exact ih b fun j hj => h j (by simp [hj])
  rw [hfor _ _ (fun i _ => some (if decide ((xs.drop (i * m)).take m = (ys.drop (i * m)).take m) = true then ForInStep.yield (none, ()) else ForInStep.done (some false, ()))) _ hb, forIn_all (fun i => decide ((xs.drop (i * m)).take m = (ys.drop (i * m)).take m))]
  have hall : (List.range' 0 [:len].size).all (fun i => decide ((xs.drop (i * m)).take m = (ys.drop (i * m)).take m)) = decide (xs = ys) := by
    rw [Bool.eq_iff_iff, List.all_eq_true, decide_eq_true_iff, ← chunks h1 h2]
    constructor
    · intro h i hi
      simpa using h i (by rw [List.mem_range'_1]; simp [Std.Legacy.Range.size]; omega)
    · intro h i hi
      have := List.mem_range'_1.1 hi
      simp [Std.Legacy.Range.size] at this
      simpa using h i (by omega)
  rw [hall]
  cases decide (xs = ys) <;> rfl
theorem forIn_listF {α β : Type} (l : List α) (b : β) (f : α → β → Sem (ForInStep β)) : pureOf P (forIn l b f) = forIn (m := Option) l b fun i b => pureOf P (f i b) := by
  induction l generalizing b with
  | nil => rfl
  | cons i l ih =>
    simp only [List.forIn_cons, pureOf_bind]
    show Option.bind _ _ = Option.bind _ _
    congr 1
    funext s
    cases s with
    | done b => rfl
    | yield b => exact ih b
def fieldBody (P : Program) (d : Nat) (xs ys : List Int) (f : Field) : Option (ForInStep (Option Bool × Unit)) :=
  pureOf P (if f.name ≠ "_" then do
    let a ← part f.type (xs.map (Value.int .i64)).toArray f.offset
    let b ← part f.type (ys.map (Value.int .i64)).toArray f.offset
    let q ← Op.equalIn d f.type a b
    if (!q) = true then pure (ForInStep.done (some false, ())) else pure (ForInStep.yield (none, ()))
  else pure (ForInStep.yield (none, ())))
theorem fieldBody_ok {d : Nat} {xs ys : List Int} {f : Field} {k : Nat} (hn : f.name ≠ "_") (ho : f.offset = k) (he : EqFlat P d f.type false 1) (ha : isAggO P f.type = some false) (hs : szOf P f.type = some 1) (h1 : k < xs.length) (h2 : k < ys.length) :
    fieldBody P d xs ys f = some (if xs[k] = ys[k] then ForInStep.yield (none, ()) else ForInStep.done (some false, ())) := by
  subst ho
  unfold fieldBody
  rw [if_pos hn]
  simp only [pureOf_bind]
  rw [pureOf_part hs ha (fun _ => rfl) (by omega), Option.bind_some, pureOf_part hs ha (fun _ => rfl) (by omega), Option.bind_some, he _ _ (by simp; omega) (by simp; omega), Option.bind_some]
  have e1 : (xs.drop f.offset).take 1 = [xs[f.offset]] := by rw [List.drop_eq_getElem_cons h1]; rfl
  have e2 : (ys.drop f.offset).take 1 = [ys[f.offset]] := by rw [List.drop_eq_getElem_cons h2]; rfl
  rw [e1, e2]
  by_cases hq : xs[f.offset] = ys[f.offset]
  · simp [hq]; rfl
  · simp [hq]; rfl
theorem fields_all {d : Nat} {xs ys : List Int} : ∀ {fs : List Field} {k : Nat}, (∀ (j : Nat) (f : Field), fs[j]? = some f → f.name ≠ "_" ∧ f.offset = k + j ∧ EqFlat P d f.type false 1 ∧ isAggO P f.type = some false ∧ szOf P f.type = some 1) → xs.length = k + fs.length → ys.length = k + fs.length →
    (forIn (m := Option) fs ((none : Option Bool), ()) fun f _ => fieldBody P d xs ys f) = some (if xs.drop k = ys.drop k then (none, ()) else (some false, ()))
  | [], k, _, h1, h2 => by
    simp only [List.length_nil, Nat.add_zero] at h1 h2
    rw [List.drop_eq_nil_of_le (by omega), List.drop_eq_nil_of_le (by omega)]; rfl
  | f :: fs, k, hf, h1, h2 => by
    simp only [List.length_cons] at h1 h2
    obtain ⟨q1, q2, q3, q4, q5⟩ := hf 0 f rfl
    have hk1 : k < xs.length := by omega
    have hk2 : k < ys.length := by omega
    have ih := fields_all (xs := xs) (ys := ys) (fs := fs) (k := k + 1) (fun j g hg => by
      obtain ⟨a1, a2, a3⟩ := hf (j + 1) g (by simpa using hg)
      exact ⟨a1, by omega, a3⟩) (by omega) (by omega)
    rw [List.forIn_cons, fieldBody_ok q1 (by omega) q3 q4 q5 hk1 hk2, List.drop_eq_getElem_cons hk1, List.drop_eq_getElem_cons hk2]
    by_cases hq : xs[k] = ys[k]
    · simp only [hq, if_true, List.cons.injEq, true_and]
      exact ih
    · simp only [hq, if_false, List.cons.injEq, false_and]; rfl
theorem eqFlat_struct {d : Nat} {t : TypeId} {fields : Array Field} (hu : P.underlying t = some (.struct fields)) (hst : P.stoodInHeld t = false)
    (hf : ∀ (j : Nat) (f : Field), fields.toList[j]? = some f → f.name ≠ "_" ∧ f.offset = j ∧ EqFlat P d f.type false 1 ∧ isAggO P f.type = some false ∧ szOf P f.type = some 1) : EqFlat P (d + 1) t true fields.size := by
  intro xs ys h1 h2
  simp only [valI, if_true, Op.equalIn, pureOf_bind, pureOf_und, hu, Option.bind_some, pureOf_program, hst, Bool.false_eq_true, if_false, ← Array.forIn_toList, forIn_listF]
  have := fields_all (P := P) (d := d) (xs := xs) (ys := ys) (fs := fields.toList) (k := 0) (fun j f h => by simpa using hf j f h) (by simpa using h1) (by simpa using h2)
  simp only [List.drop_zero] at this
  show (Option.bind (forIn (m := Option) fields.toList ((none : Option Bool), ()) fun f _ => fieldBody P d xs ys f) _) = _
  rw [this]
  by_cases hq : xs = ys <;> simp [hq, pureOf_pure]
theorem concs_ints : ∀ xs : List Int, AV.concs (xs.map (AV.int .i64)) = some (xs.map (Value.int .i64))
  | [] => rfl
  | x :: xs => by simp only [List.map_cons, AV.concs, AV.conc, concs_ints xs]
theorem guard_ok {op : BinOp} {t : TypeId} {x y : Operand} {as bs : Array Value} (h : P.eqGuardType P.depth t = false) : pureOf P (eqGuard op t x y (.agg as) (.agg bs)) = some () := by
  unfold eqGuard
  cases op <;> first
    | rfl
    | (show pureOf P (Sem.program _) = _
       simp only [pureOf, Sem.bind]
       simp [pureOf_bind, pureOf_program, h]; rfl)
theorem eqv_op {c : Caller} {lo' : Nat} {fr : List AV} {σ : Sto} {o : Op} {t t' : TypeId} {x y : Operand} {n : Nat} (xs ys : List Int) (ho : o = .binOp .eql t x y t') (hx : evA cfg fr x = some (.agg (xs.map (AV.int .i64)))) (hy : evA cfg fr y = some (.agg (ys.map (AV.int .i64))))
    (hg : P.eqGuardType P.depth t = false) (he : EqFlat P 10000 t true n) (h1 : xs.length = n) (h2 : ys.length = n) : opA P cfg c fn lo' fr σ o = some (.bool (decide (xs = ys)), σ) := by
  subst ho
  have hn : nilEqA P t (.agg (xs.map (AV.int .i64))) (.agg (ys.map (AV.int .i64))) = false := by
    unfold nilEqA; split <;> first | rfl | (rename_i h _; cases h) | (rename_i h; cases h)
  have hs : scalarA P (do eqGuard .eql t x y (.agg (xs.map (Value.int .i64)).toArray) (.agg (ys.map (Value.int .i64)).toArray); binOp .eql t (.agg (xs.map (Value.int .i64)).toArray) (.agg (ys.map (Value.int .i64)).toArray)) = some (.bool (decide (xs = ys))) := by
    unfold scalarA
    rw [pureOf_bind, guard_ok hg, Option.bind_some]
    have e := he xs ys h1 h2
    simp only [valI, if_true] at e
    show (pureOf P (do pure (.bool (← Op.equal t _ _)))).bind absC = _
    rw [pureOf_bind]
    unfold Op.equal
    rw [show Op.maxDepth = 10000 from rfl, e]; rfl
  simp only [opA, op2, hx, hy, binA, hn, AV.conc, concs_ints, hs, sameA, Option.map_some]
  simp
theorem neqv_op {c : Caller} {lo' : Nat} {fr : List AV} {σ : Sto} {o : Op} {t t' : TypeId} {x y : Operand} {n : Nat} (xs ys : List Int) (ho : o = .binOp .neq t x y t') (hx : evA cfg fr x = some (.agg (xs.map (AV.int .i64)))) (hy : evA cfg fr y = some (.agg (ys.map (AV.int .i64))))
    (hg : P.eqGuardType P.depth t = false) (he : EqFlat P 10000 t true n) (h1 : xs.length = n) (h2 : ys.length = n) : opA P cfg c fn lo' fr σ o = some (.bool (!decide (xs = ys)), σ) := by
  subst ho
  have hn : nilEqA P t (.agg (xs.map (AV.int .i64))) (.agg (ys.map (AV.int .i64))) = false := by
    unfold nilEqA; split <;> first | rfl | (rename_i h _; cases h) | (rename_i h; cases h)
  have hs : scalarA P (do eqGuard .neq t x y (.agg (xs.map (Value.int .i64)).toArray) (.agg (ys.map (Value.int .i64)).toArray); binOp .neq t (.agg (xs.map (Value.int .i64)).toArray) (.agg (ys.map (Value.int .i64)).toArray)) = some (.bool (!decide (xs = ys))) := by
    unfold scalarA
    rw [pureOf_bind, guard_ok hg, Option.bind_some]
    have e := he xs ys h1 h2
    simp only [valI, if_true] at e
    show (pureOf P (do pure (.bool (!(← Op.equal t _ _))))).bind absC = _
    rw [pureOf_bind]
    unfold Op.equal
    rw [show Op.maxDepth = 10000 from rfl, e]; rfl
  simp only [opA, op2, hx, hy, binA, hn, AV.conc, concs_ints, hs, sameA, Option.map_some]
  simp
end Go.Abs
